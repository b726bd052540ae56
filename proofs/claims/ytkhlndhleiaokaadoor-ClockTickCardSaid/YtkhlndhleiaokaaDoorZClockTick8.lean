/- Texts that ClockTick leans on, laid together by a program (wip/d/merge.py): MHox85. -/
import Derived.Test.YtkhlndhleiaokaaDoorZClockTick1
import Derived.Test.YtkhlndhleiaokaaDoorZClockTick6
import Derived.Test.YtkhlndhleiaokaaDoorZClockTick7
namespace Go.Proofs.YtkhlndhleiaokaaDoor.MHo
open Go.RowKit Go.Proofs.YtkhlndhleiaokaaDoorW.PrintWords Go.Proofs.YtkhlndhleiaokaaDoorW.PrintLast Go.Proofs.YtkhlndhleiaokaaDoorW.PrintMore
attribute [local go_sem] mp_u32s mp_u32m mp_u8s mp_u8m max2_int min2_int max_two min_two max_three min_three max_four min_four   -- for this text's walks alone
set_option linter.unusedVariables false
set_option linter.unusedSimpArgs false

/-! ### drumlinelaw8_ClockTick: function 9 -/
mutual
def drumlinelaw8_ClockTick.j0 : Nat → Int → Int → Int → Int → Int → Int → Bool → List (S60) → List (S37) → Int → Int → Int → Int → Int → Int → Int → Int → Int → Int → Int → Option (Bool)
 | 0, _, _, _, _, _, _, _, _, _, _, _, _, _, _, _, _, _, _, _, _ => none
 | k + 1, x2, x4, x12, x13, x14, x15, x85, x534000, x534001, x534002, x534003, x534004, x534005, x534006, x534007, x534008, x534009, x534010, x534011, x534012 => if x85 = true then (some true) else ((bounds_Near.f k x534000 x534001 x534002 x534003 x534004 x534005 x534006 x534007 x534008 x534009 x534010 x534011 x534012).bind fun t534 => (if (wrap64 (x14 - x15)) > t534 then (drumlinelaw8_ClockTick.j1 k x2 x4 x12 x13 x14 x15 true x534000 x534001 x534002 x534003 x534004 x534005 x534006 x534007 x534008 x534009 x534010 x534011 x534012) else ((bounds_Near.f k x534000 x534001 x534002 x534003 x534004 x534005 x534006 x534007 x534008 x534009 x534010 x534011 x534012).bind fun t535 => (drumlinelaw8_ClockTick.j1 k x2 x4 x12 x13 x14 x15 (decide ((wrap64 (x15 - x14)) > t535)) x534000 x534001 x534002 x534003 x534004 x534005 x534006 x534007 x534008 x534009 x534010 x534011 x534012))))
def drumlinelaw8_ClockTick.j1 : Nat → Int → Int → Int → Int → Int → Int → Bool → List (S60) → List (S37) → Int → Int → Int → Int → Int → Int → Int → Int → Int → Int → Int → Option (Bool)
 | 0, _, _, _, _, _, _, _, _, _, _, _, _, _, _, _, _, _, _, _, _ => none
 | k + 1, x2, x4, x12, x13, x14, x15, x99, x534000, x534001, x534002, x534003, x534004, x534005, x534006, x534007, x534008, x534009, x534010, x534011, x534012 => if x99 = true then (some true) else ((drumlineref5_Near.f k x534000 x534001 x534002 x534003 x534004 x534005 x534006 x534007 x534008 x534009 x534010 x534011 x534012).bind fun t536 => (if (wrap64 (x534002 - t536)) = 0 then (none) else ((clock_Reading.f x14 7 x534002 (wrap64 (x12 + x2)) (wrap64 ((mx x14 x15) + (Int.tmod (wrap64 (x4)) (wrap64 (x534002 - t536)))))).bind fun bt537 => ((clock_Reading.f x15 7 x534002 (wrap64 (x13 + x2)) (wrap64 ((mx x14 x15) + (Int.tmod (wrap64 (x4)) (wrap64 (x534002 - t536)))))).bind fun bt539 => (if bt537.2 = true then (if bt539.2 = true then ((bounds_Tick.f k x534000 x534001 x534002 x534003 x534004 x534005 x534006 x534007 x534008 x534009 x534010 x534011 x534012).bind fun t541 => (if (wrap64 (bt537.1 - bt539.1)) ≤ t541 then ((bounds_Tick.f k x534000 x534001 x534002 x534003 x534004 x534005 x534006 x534007 x534008 x534009 x534010 x534011 x534012).bind fun t542 => (some (decide ((wrap64 (bt539.1 - bt537.1)) ≤ t542)))) else (some false))) else (some false)) else (some false))))))
end
def drumlinelaw8_ClockTick.f (k : Nat) (a0 : Int) (a1_0 : Int) (a1_1 : Int) (a2 : Int) (a3_0 : Int) (a3_1 : Int) (a4 : Int) : Option (Bool) := (drumlinelaw8_alive.f).bind fun t515 => (if t515 = true then ((drumlineref26_Made.f a0).bind fun bt516 => (if a1_0 < (wrap64 (-bt516.2.2.2.2.2.2.1)) then (drumlinelaw8_ClockTick.j0 k a2 a4 a1_0 a1_1 a3_0 a3_1 true bt516.1 bt516.2.1 bt516.2.2.1 bt516.2.2.2.1 bt516.2.2.2.2.1 bt516.2.2.2.2.2.1 bt516.2.2.2.2.2.2.1 bt516.2.2.2.2.2.2.2.1 bt516.2.2.2.2.2.2.2.2.1 bt516.2.2.2.2.2.2.2.2.2.1 bt516.2.2.2.2.2.2.2.2.2.2.1 bt516.2.2.2.2.2.2.2.2.2.2.2.1 bt516.2.2.2.2.2.2.2.2.2.2.2.2) else (if a1_0 > bt516.2.2.2.2.2.2.1 then (drumlinelaw8_ClockTick.j0 k a2 a4 a1_0 a1_1 a3_0 a3_1 true bt516.1 bt516.2.1 bt516.2.2.1 bt516.2.2.2.1 bt516.2.2.2.2.1 bt516.2.2.2.2.2.1 bt516.2.2.2.2.2.2.1 bt516.2.2.2.2.2.2.2.1 bt516.2.2.2.2.2.2.2.2.1 bt516.2.2.2.2.2.2.2.2.2.1 bt516.2.2.2.2.2.2.2.2.2.2.1 bt516.2.2.2.2.2.2.2.2.2.2.2.1 bt516.2.2.2.2.2.2.2.2.2.2.2.2) else (if a1_1 < (wrap64 (-bt516.2.2.2.2.2.2.1)) then (drumlinelaw8_ClockTick.j0 k a2 a4 a1_0 a1_1 a3_0 a3_1 true bt516.1 bt516.2.1 bt516.2.2.1 bt516.2.2.2.1 bt516.2.2.2.2.1 bt516.2.2.2.2.2.1 bt516.2.2.2.2.2.2.1 bt516.2.2.2.2.2.2.2.1 bt516.2.2.2.2.2.2.2.2.1 bt516.2.2.2.2.2.2.2.2.2.1 bt516.2.2.2.2.2.2.2.2.2.2.1 bt516.2.2.2.2.2.2.2.2.2.2.2.1 bt516.2.2.2.2.2.2.2.2.2.2.2.2) else (if a1_1 > bt516.2.2.2.2.2.2.1 then (drumlinelaw8_ClockTick.j0 k a2 a4 a1_0 a1_1 a3_0 a3_1 true bt516.1 bt516.2.1 bt516.2.2.1 bt516.2.2.2.1 bt516.2.2.2.2.1 bt516.2.2.2.2.2.1 bt516.2.2.2.2.2.2.1 bt516.2.2.2.2.2.2.2.1 bt516.2.2.2.2.2.2.2.2.1 bt516.2.2.2.2.2.2.2.2.2.1 bt516.2.2.2.2.2.2.2.2.2.2.1 bt516.2.2.2.2.2.2.2.2.2.2.2.1 bt516.2.2.2.2.2.2.2.2.2.2.2.2) else (if a2 < (wrap64 (-bt516.2.2.2.2.2.2.2.1)) then (drumlinelaw8_ClockTick.j0 k a2 a4 a1_0 a1_1 a3_0 a3_1 true bt516.1 bt516.2.1 bt516.2.2.1 bt516.2.2.2.1 bt516.2.2.2.2.1 bt516.2.2.2.2.2.1 bt516.2.2.2.2.2.2.1 bt516.2.2.2.2.2.2.2.1 bt516.2.2.2.2.2.2.2.2.1 bt516.2.2.2.2.2.2.2.2.2.1 bt516.2.2.2.2.2.2.2.2.2.2.1 bt516.2.2.2.2.2.2.2.2.2.2.2.1 bt516.2.2.2.2.2.2.2.2.2.2.2.2) else (if a2 > bt516.2.2.2.2.2.2.2.1 then (drumlinelaw8_ClockTick.j0 k a2 a4 a1_0 a1_1 a3_0 a3_1 true bt516.1 bt516.2.1 bt516.2.2.1 bt516.2.2.2.1 bt516.2.2.2.2.1 bt516.2.2.2.2.2.1 bt516.2.2.2.2.2.2.1 bt516.2.2.2.2.2.2.2.1 bt516.2.2.2.2.2.2.2.2.1 bt516.2.2.2.2.2.2.2.2.2.1 bt516.2.2.2.2.2.2.2.2.2.2.1 bt516.2.2.2.2.2.2.2.2.2.2.2.1 bt516.2.2.2.2.2.2.2.2.2.2.2.2) else (if a3_0 < (-549755813888) then (drumlinelaw8_ClockTick.j0 k a2 a4 a1_0 a1_1 a3_0 a3_1 true bt516.1 bt516.2.1 bt516.2.2.1 bt516.2.2.2.1 bt516.2.2.2.2.1 bt516.2.2.2.2.2.1 bt516.2.2.2.2.2.2.1 bt516.2.2.2.2.2.2.2.1 bt516.2.2.2.2.2.2.2.2.1 bt516.2.2.2.2.2.2.2.2.2.1 bt516.2.2.2.2.2.2.2.2.2.2.1 bt516.2.2.2.2.2.2.2.2.2.2.2.1 bt516.2.2.2.2.2.2.2.2.2.2.2.2) else (if a3_0 > 549755813888 then (drumlinelaw8_ClockTick.j0 k a2 a4 a1_0 a1_1 a3_0 a3_1 true bt516.1 bt516.2.1 bt516.2.2.1 bt516.2.2.2.1 bt516.2.2.2.2.1 bt516.2.2.2.2.2.1 bt516.2.2.2.2.2.2.1 bt516.2.2.2.2.2.2.2.1 bt516.2.2.2.2.2.2.2.2.1 bt516.2.2.2.2.2.2.2.2.2.1 bt516.2.2.2.2.2.2.2.2.2.2.1 bt516.2.2.2.2.2.2.2.2.2.2.2.1 bt516.2.2.2.2.2.2.2.2.2.2.2.2) else (if a3_1 < (-549755813888) then (drumlinelaw8_ClockTick.j0 k a2 a4 a1_0 a1_1 a3_0 a3_1 true bt516.1 bt516.2.1 bt516.2.2.1 bt516.2.2.2.1 bt516.2.2.2.2.1 bt516.2.2.2.2.2.1 bt516.2.2.2.2.2.2.1 bt516.2.2.2.2.2.2.2.1 bt516.2.2.2.2.2.2.2.2.1 bt516.2.2.2.2.2.2.2.2.2.1 bt516.2.2.2.2.2.2.2.2.2.2.1 bt516.2.2.2.2.2.2.2.2.2.2.2.1 bt516.2.2.2.2.2.2.2.2.2.2.2.2) else (drumlinelaw8_ClockTick.j0 k a2 a4 a1_0 a1_1 a3_0 a3_1 (decide (a3_1 > 549755813888)) bt516.1 bt516.2.1 bt516.2.2.1 bt516.2.2.2.1 bt516.2.2.2.2.1 bt516.2.2.2.2.2.1 bt516.2.2.2.2.2.2.1 bt516.2.2.2.2.2.2.2.1 bt516.2.2.2.2.2.2.2.2.1 bt516.2.2.2.2.2.2.2.2.2.1 bt516.2.2.2.2.2.2.2.2.2.2.1 bt516.2.2.2.2.2.2.2.2.2.2.2.1 bt516.2.2.2.2.2.2.2.2.2.2.2.2))))))))))) else (some false))
theorem drumlinelaw8_ClockTick.mono_l : ∀ k, (∀ y0 y1 y2 y3 y4 y5 y6 y7 y8 y9 y10 y11 y12 y13 y14 y15 y16 y17 y18 y19, LeO (drumlinelaw8_ClockTick.j0 k y0 y1 y2 y3 y4 y5 y6 y7 y8 y9 y10 y11 y12 y13 y14 y15 y16 y17 y18 y19) (drumlinelaw8_ClockTick.j0 (k + 1) y0 y1 y2 y3 y4 y5 y6 y7 y8 y9 y10 y11 y12 y13 y14 y15 y16 y17 y18 y19)) ∧ (∀ y0 y1 y2 y3 y4 y5 y6 y7 y8 y9 y10 y11 y12 y13 y14 y15 y16 y17 y18 y19, LeO (drumlinelaw8_ClockTick.j1 k y0 y1 y2 y3 y4 y5 y6 y7 y8 y9 y10 y11 y12 y13 y14 y15 y16 y17 y18 y19) (drumlinelaw8_ClockTick.j1 (k + 1) y0 y1 y2 y3 y4 y5 y6 y7 y8 y9 y10 y11 y12 y13 y14 y15 y16 y17 y18 y19))
 | 0 => ⟨fun _ _ _ _ _ _ _ _ _ _ _ _ _ _ _ _ _ _ _ _ r h => by simp [drumlinelaw8_ClockTick.j0] at h, fun _ _ _ _ _ _ _ _ _ _ _ _ _ _ _ _ _ _ _ _ r h => by simp [drumlinelaw8_ClockTick.j1] at h⟩
 | k + 1 => by
  obtain ⟨ih0, ih1⟩ := drumlinelaw8_ClockTick.mono_l k
  refine ⟨?_, ?_⟩
  ·intro y0 y1 y2 y3 y4 y5 y6 y7 y8 y9 y10 y11 y12 y13 y14 y15 y16 y17 y18 y19
   unfold drumlinelaw8_ClockTick.j0
   repeat' first
   | (with_reducible exact ih0 _ _ _ _ _ _ _ _ _ _ _ _ _ _ _ _ _ _ _ _)
   | (with_reducible exact ih1 _ _ _ _ _ _ _ _ _ _ _ _ _ _ _ _ _ _ _ _)
   | (with_reducible exact bounds_Near.mono _ _ _ _ _ _ _ _ _ _ _ _ _ _)
   | (with_reducible exact bounds_Tick.mono _ _ _ _ _ _ _ _ _ _ _ _ _ _)
   | (with_reducible exact drumlineref5_Near.mono _ _ _ _ _ _ _ _ _ _ _ _ _ _)
   | (with_reducible exact LeO.refl _)
   | (with_reducible exact LeO.none _)
   | (with_reducible refine LeO.ite ?_ ?_)
   | (with_reducible refine LeO.bind ?_ (fun _ => ?_))
   | exact ih0 _ _ _ _ _ _ _ _ _ _ _ _ _ _ _ _ _ _ _ _
   | exact ih1 _ _ _ _ _ _ _ _ _ _ _ _ _ _ _ _ _ _ _ _
   | exact bounds_Near.mono _ _ _ _ _ _ _ _ _ _ _ _ _ _
   | exact bounds_Tick.mono _ _ _ _ _ _ _ _ _ _ _ _ _ _
   | exact drumlineref5_Near.mono _ _ _ _ _ _ _ _ _ _ _ _ _ _
   | exact LeO.none _
   | refine LeO.ite ?_ ?_
   | refine LeO.bind ?_ (fun _ => ?_)
  ·intro y0 y1 y2 y3 y4 y5 y6 y7 y8 y9 y10 y11 y12 y13 y14 y15 y16 y17 y18 y19
   unfold drumlinelaw8_ClockTick.j1
   repeat' first
   | (with_reducible exact ih0 _ _ _ _ _ _ _ _ _ _ _ _ _ _ _ _ _ _ _ _)
   | (with_reducible exact ih1 _ _ _ _ _ _ _ _ _ _ _ _ _ _ _ _ _ _ _ _)
   | (with_reducible exact bounds_Near.mono _ _ _ _ _ _ _ _ _ _ _ _ _ _)
   | (with_reducible exact bounds_Tick.mono _ _ _ _ _ _ _ _ _ _ _ _ _ _)
   | (with_reducible exact drumlineref5_Near.mono _ _ _ _ _ _ _ _ _ _ _ _ _ _)
   | (with_reducible exact LeO.refl _)
   | (with_reducible exact LeO.none _)
   | (with_reducible refine LeO.ite ?_ ?_)
   | (with_reducible refine LeO.bind ?_ (fun _ => ?_))
   | exact ih0 _ _ _ _ _ _ _ _ _ _ _ _ _ _ _ _ _ _ _ _
   | exact ih1 _ _ _ _ _ _ _ _ _ _ _ _ _ _ _ _ _ _ _ _
   | exact bounds_Near.mono _ _ _ _ _ _ _ _ _ _ _ _ _ _
   | exact bounds_Tick.mono _ _ _ _ _ _ _ _ _ _ _ _ _ _
   | exact drumlineref5_Near.mono _ _ _ _ _ _ _ _ _ _ _ _ _ _
   | exact LeO.none _
   | refine LeO.ite ?_ ?_
   | refine LeO.bind ?_ (fun _ => ?_)
theorem drumlinelaw8_ClockTick.mono : ∀ a0 a1 a2 a3 a4 a5 a6 k, LeO (drumlinelaw8_ClockTick.f k a0 a1 a2 a3 a4 a5 a6) (drumlinelaw8_ClockTick.f (k + 1) a0 a1 a2 a3 a4 a5 a6) := by
 intro a0 a1 a2 a3 a4 a5 a6 k
 obtain ⟨ih0, ih1⟩ := drumlinelaw8_ClockTick.mono_l k
 unfold drumlinelaw8_ClockTick.f
 repeat' first
   | (with_reducible exact ih0 _ _ _ _ _ _ _ _ _ _ _ _ _ _ _ _ _ _ _ _)
   | (with_reducible exact ih1 _ _ _ _ _ _ _ _ _ _ _ _ _ _ _ _ _ _ _ _)
   | (with_reducible exact bounds_Near.mono _ _ _ _ _ _ _ _ _ _ _ _ _ _)
   | (with_reducible exact bounds_Tick.mono _ _ _ _ _ _ _ _ _ _ _ _ _ _)
   | (with_reducible exact drumlineref5_Near.mono _ _ _ _ _ _ _ _ _ _ _ _ _ _)
   | (with_reducible exact LeO.refl _)
   | (with_reducible exact LeO.none _)
   | (with_reducible refine LeO.ite ?_ ?_)
   | (with_reducible refine LeO.bind ?_ (fun _ => ?_))
   | exact ih0 _ _ _ _ _ _ _ _ _ _ _ _ _ _ _ _ _ _ _ _
   | exact ih1 _ _ _ _ _ _ _ _ _ _ _ _ _ _ _ _ _ _ _ _
   | exact bounds_Near.mono _ _ _ _ _ _ _ _ _ _ _ _ _ _
   | exact bounds_Tick.mono _ _ _ _ _ _ _ _ _ _ _ _ _ _
   | exact drumlineref5_Near.mono _ _ _ _ _ _ _ _ _ _ _ _ _ _
   | exact LeO.none _
   | refine LeO.ite ?_ ?_
   | refine LeO.bind ?_ (fun _ => ?_)
def drumlinelaw8_ClockTick.T10 : Bool × List (List Nat × List Nat) := (true, [([], []), ([], []), ([0, 1], [0, 1]), ([], []), ([3], [3]), ([], []), ([5], [5]), ([], []), ([7], [7]), ([6, 8], [6, 8]), ([4, 9], [4, 9]), ([2, 10], [2, 10]), ([11, 8, 0, 1, 2, 3, 4, 5, 6, 7, 8, 9, 10, 11], [11])])
def drumlinelaw8_ClockTick.B10 : List Nat := [0, 0, 3, 0, 8, 0, 32, 0, 128, 480, 1016, 2047, 4095]
theorem drumlinelaw8_ClockTick.tab10 : rtab .any (opsOf Tryd.f9 10) = drumlinelaw8_ClockTick.T10 := by kernel_rfl
theorem drumlinelaw8_ClockTick.bits10 : waitsOk drumlinelaw8_ClockTick.T10.2 drumlinelaw8_ClockTick.B10 = true := by kernel_rfl
set_option maxHeartbeats 8000000 in
set_option maxRecDepth 100000 in
theorem drumlinelaw8_ClockTick.calls (k : Nat) (a0 : Int) (a1_0 : Int) (a1_1 : Int) (a2 : Int) (a3_0 : Int) (a3_1 : Int) (a4 : Int) (r : Bool) (w : World) (h : drumlinelaw8_ClockTick.f k a0 a1_0 a1_1 a2 a3_0 a3_1 a4 = some r) :
  Calls Tryd.prog 9 #[.int .i64 a0, .agg #[.int .i64 a1_0, .int .i64 a1_1], .int .i64 a2, .agg #[.int .i64 a3_0, .int .i64 a3_1], .int .u32 a4] w fun e w' => e = .returned (.bool r) ∧ Below w.heap.size w w' := by
 have hu35 := Tryd.underlying35
 have hu47 := Tryd.underlying47
 have hu25 := Tryd.underlying25
 have HB := Aside0.mk (Below.refl w.heap.size w)
 have H : ((drumlinelaw8_alive.f).bind fun t515 => (if t515 = true then ((drumlineref26_Made.f a0).bind fun bt516 => (if a1_0 < (wrap64 (-bt516.2.2.2.2.2.2.1)) then (drumlinelaw8_ClockTick.j0 k a2 a4 a1_0 a1_1 a3_0 a3_1 true bt516.1 bt516.2.1 bt516.2.2.1 bt516.2.2.2.1 bt516.2.2.2.2.1 bt516.2.2.2.2.2.1 bt516.2.2.2.2.2.2.1 bt516.2.2.2.2.2.2.2.1 bt516.2.2.2.2.2.2.2.2.1 bt516.2.2.2.2.2.2.2.2.2.1 bt516.2.2.2.2.2.2.2.2.2.2.1 bt516.2.2.2.2.2.2.2.2.2.2.2.1 bt516.2.2.2.2.2.2.2.2.2.2.2.2) else (if a1_0 > bt516.2.2.2.2.2.2.1 then (drumlinelaw8_ClockTick.j0 k a2 a4 a1_0 a1_1 a3_0 a3_1 true bt516.1 bt516.2.1 bt516.2.2.1 bt516.2.2.2.1 bt516.2.2.2.2.1 bt516.2.2.2.2.2.1 bt516.2.2.2.2.2.2.1 bt516.2.2.2.2.2.2.2.1 bt516.2.2.2.2.2.2.2.2.1 bt516.2.2.2.2.2.2.2.2.2.1 bt516.2.2.2.2.2.2.2.2.2.2.1 bt516.2.2.2.2.2.2.2.2.2.2.2.1 bt516.2.2.2.2.2.2.2.2.2.2.2.2) else (if a1_1 < (wrap64 (-bt516.2.2.2.2.2.2.1)) then (drumlinelaw8_ClockTick.j0 k a2 a4 a1_0 a1_1 a3_0 a3_1 true bt516.1 bt516.2.1 bt516.2.2.1 bt516.2.2.2.1 bt516.2.2.2.2.1 bt516.2.2.2.2.2.1 bt516.2.2.2.2.2.2.1 bt516.2.2.2.2.2.2.2.1 bt516.2.2.2.2.2.2.2.2.1 bt516.2.2.2.2.2.2.2.2.2.1 bt516.2.2.2.2.2.2.2.2.2.2.1 bt516.2.2.2.2.2.2.2.2.2.2.2.1 bt516.2.2.2.2.2.2.2.2.2.2.2.2) else (if a1_1 > bt516.2.2.2.2.2.2.1 then (drumlinelaw8_ClockTick.j0 k a2 a4 a1_0 a1_1 a3_0 a3_1 true bt516.1 bt516.2.1 bt516.2.2.1 bt516.2.2.2.1 bt516.2.2.2.2.1 bt516.2.2.2.2.2.1 bt516.2.2.2.2.2.2.1 bt516.2.2.2.2.2.2.2.1 bt516.2.2.2.2.2.2.2.2.1 bt516.2.2.2.2.2.2.2.2.2.1 bt516.2.2.2.2.2.2.2.2.2.2.1 bt516.2.2.2.2.2.2.2.2.2.2.2.1 bt516.2.2.2.2.2.2.2.2.2.2.2.2) else (if a2 < (wrap64 (-bt516.2.2.2.2.2.2.2.1)) then (drumlinelaw8_ClockTick.j0 k a2 a4 a1_0 a1_1 a3_0 a3_1 true bt516.1 bt516.2.1 bt516.2.2.1 bt516.2.2.2.1 bt516.2.2.2.2.1 bt516.2.2.2.2.2.1 bt516.2.2.2.2.2.2.1 bt516.2.2.2.2.2.2.2.1 bt516.2.2.2.2.2.2.2.2.1 bt516.2.2.2.2.2.2.2.2.2.1 bt516.2.2.2.2.2.2.2.2.2.2.1 bt516.2.2.2.2.2.2.2.2.2.2.2.1 bt516.2.2.2.2.2.2.2.2.2.2.2.2) else (if a2 > bt516.2.2.2.2.2.2.2.1 then (drumlinelaw8_ClockTick.j0 k a2 a4 a1_0 a1_1 a3_0 a3_1 true bt516.1 bt516.2.1 bt516.2.2.1 bt516.2.2.2.1 bt516.2.2.2.2.1 bt516.2.2.2.2.2.1 bt516.2.2.2.2.2.2.1 bt516.2.2.2.2.2.2.2.1 bt516.2.2.2.2.2.2.2.2.1 bt516.2.2.2.2.2.2.2.2.2.1 bt516.2.2.2.2.2.2.2.2.2.2.1 bt516.2.2.2.2.2.2.2.2.2.2.2.1 bt516.2.2.2.2.2.2.2.2.2.2.2.2) else (if a3_0 < (-549755813888) then (drumlinelaw8_ClockTick.j0 k a2 a4 a1_0 a1_1 a3_0 a3_1 true bt516.1 bt516.2.1 bt516.2.2.1 bt516.2.2.2.1 bt516.2.2.2.2.1 bt516.2.2.2.2.2.1 bt516.2.2.2.2.2.2.1 bt516.2.2.2.2.2.2.2.1 bt516.2.2.2.2.2.2.2.2.1 bt516.2.2.2.2.2.2.2.2.2.1 bt516.2.2.2.2.2.2.2.2.2.2.1 bt516.2.2.2.2.2.2.2.2.2.2.2.1 bt516.2.2.2.2.2.2.2.2.2.2.2.2) else (if a3_0 > 549755813888 then (drumlinelaw8_ClockTick.j0 k a2 a4 a1_0 a1_1 a3_0 a3_1 true bt516.1 bt516.2.1 bt516.2.2.1 bt516.2.2.2.1 bt516.2.2.2.2.1 bt516.2.2.2.2.2.1 bt516.2.2.2.2.2.2.1 bt516.2.2.2.2.2.2.2.1 bt516.2.2.2.2.2.2.2.2.1 bt516.2.2.2.2.2.2.2.2.2.1 bt516.2.2.2.2.2.2.2.2.2.2.1 bt516.2.2.2.2.2.2.2.2.2.2.2.1 bt516.2.2.2.2.2.2.2.2.2.2.2.2) else (if a3_1 < (-549755813888) then (drumlinelaw8_ClockTick.j0 k a2 a4 a1_0 a1_1 a3_0 a3_1 true bt516.1 bt516.2.1 bt516.2.2.1 bt516.2.2.2.1 bt516.2.2.2.2.1 bt516.2.2.2.2.2.1 bt516.2.2.2.2.2.2.1 bt516.2.2.2.2.2.2.2.1 bt516.2.2.2.2.2.2.2.2.1 bt516.2.2.2.2.2.2.2.2.2.1 bt516.2.2.2.2.2.2.2.2.2.2.1 bt516.2.2.2.2.2.2.2.2.2.2.2.1 bt516.2.2.2.2.2.2.2.2.2.2.2.2) else (drumlinelaw8_ClockTick.j0 k a2 a4 a1_0 a1_1 a3_0 a3_1 (decide (a3_1 > 549755813888)) bt516.1 bt516.2.1 bt516.2.2.1 bt516.2.2.2.1 bt516.2.2.2.2.1 bt516.2.2.2.2.2.1 bt516.2.2.2.2.2.2.1 bt516.2.2.2.2.2.2.2.1 bt516.2.2.2.2.2.2.2.2.1 bt516.2.2.2.2.2.2.2.2.2.1 bt516.2.2.2.2.2.2.2.2.2.2.1 bt516.2.2.2.2.2.2.2.2.2.2.2.1 bt516.2.2.2.2.2.2.2.2.2.2.2.2))))))))))) else (some false))) = some r := h
 clear h
 replace H := Option.bind_eq_some_iff.mp H
 obtain ⟨t515, A60, H⟩ := H
 replace H : (if t515 = true then ((drumlineref26_Made.f a0).bind fun bt516 => (if a1_0 < (wrap64 (-bt516.2.2.2.2.2.2.1)) then (drumlinelaw8_ClockTick.j0 k a2 a4 a1_0 a1_1 a3_0 a3_1 true bt516.1 bt516.2.1 bt516.2.2.1 bt516.2.2.2.1 bt516.2.2.2.2.1 bt516.2.2.2.2.2.1 bt516.2.2.2.2.2.2.1 bt516.2.2.2.2.2.2.2.1 bt516.2.2.2.2.2.2.2.2.1 bt516.2.2.2.2.2.2.2.2.2.1 bt516.2.2.2.2.2.2.2.2.2.2.1 bt516.2.2.2.2.2.2.2.2.2.2.2.1 bt516.2.2.2.2.2.2.2.2.2.2.2.2) else (if a1_0 > bt516.2.2.2.2.2.2.1 then (drumlinelaw8_ClockTick.j0 k a2 a4 a1_0 a1_1 a3_0 a3_1 true bt516.1 bt516.2.1 bt516.2.2.1 bt516.2.2.2.1 bt516.2.2.2.2.1 bt516.2.2.2.2.2.1 bt516.2.2.2.2.2.2.1 bt516.2.2.2.2.2.2.2.1 bt516.2.2.2.2.2.2.2.2.1 bt516.2.2.2.2.2.2.2.2.2.1 bt516.2.2.2.2.2.2.2.2.2.2.1 bt516.2.2.2.2.2.2.2.2.2.2.2.1 bt516.2.2.2.2.2.2.2.2.2.2.2.2) else (if a1_1 < (wrap64 (-bt516.2.2.2.2.2.2.1)) then (drumlinelaw8_ClockTick.j0 k a2 a4 a1_0 a1_1 a3_0 a3_1 true bt516.1 bt516.2.1 bt516.2.2.1 bt516.2.2.2.1 bt516.2.2.2.2.1 bt516.2.2.2.2.2.1 bt516.2.2.2.2.2.2.1 bt516.2.2.2.2.2.2.2.1 bt516.2.2.2.2.2.2.2.2.1 bt516.2.2.2.2.2.2.2.2.2.1 bt516.2.2.2.2.2.2.2.2.2.2.1 bt516.2.2.2.2.2.2.2.2.2.2.2.1 bt516.2.2.2.2.2.2.2.2.2.2.2.2) else (if a1_1 > bt516.2.2.2.2.2.2.1 then (drumlinelaw8_ClockTick.j0 k a2 a4 a1_0 a1_1 a3_0 a3_1 true bt516.1 bt516.2.1 bt516.2.2.1 bt516.2.2.2.1 bt516.2.2.2.2.1 bt516.2.2.2.2.2.1 bt516.2.2.2.2.2.2.1 bt516.2.2.2.2.2.2.2.1 bt516.2.2.2.2.2.2.2.2.1 bt516.2.2.2.2.2.2.2.2.2.1 bt516.2.2.2.2.2.2.2.2.2.2.1 bt516.2.2.2.2.2.2.2.2.2.2.2.1 bt516.2.2.2.2.2.2.2.2.2.2.2.2) else (if a2 < (wrap64 (-bt516.2.2.2.2.2.2.2.1)) then (drumlinelaw8_ClockTick.j0 k a2 a4 a1_0 a1_1 a3_0 a3_1 true bt516.1 bt516.2.1 bt516.2.2.1 bt516.2.2.2.1 bt516.2.2.2.2.1 bt516.2.2.2.2.2.1 bt516.2.2.2.2.2.2.1 bt516.2.2.2.2.2.2.2.1 bt516.2.2.2.2.2.2.2.2.1 bt516.2.2.2.2.2.2.2.2.2.1 bt516.2.2.2.2.2.2.2.2.2.2.1 bt516.2.2.2.2.2.2.2.2.2.2.2.1 bt516.2.2.2.2.2.2.2.2.2.2.2.2) else (if a2 > bt516.2.2.2.2.2.2.2.1 then (drumlinelaw8_ClockTick.j0 k a2 a4 a1_0 a1_1 a3_0 a3_1 true bt516.1 bt516.2.1 bt516.2.2.1 bt516.2.2.2.1 bt516.2.2.2.2.1 bt516.2.2.2.2.2.1 bt516.2.2.2.2.2.2.1 bt516.2.2.2.2.2.2.2.1 bt516.2.2.2.2.2.2.2.2.1 bt516.2.2.2.2.2.2.2.2.2.1 bt516.2.2.2.2.2.2.2.2.2.2.1 bt516.2.2.2.2.2.2.2.2.2.2.2.1 bt516.2.2.2.2.2.2.2.2.2.2.2.2) else (if a3_0 < (-549755813888) then (drumlinelaw8_ClockTick.j0 k a2 a4 a1_0 a1_1 a3_0 a3_1 true bt516.1 bt516.2.1 bt516.2.2.1 bt516.2.2.2.1 bt516.2.2.2.2.1 bt516.2.2.2.2.2.1 bt516.2.2.2.2.2.2.1 bt516.2.2.2.2.2.2.2.1 bt516.2.2.2.2.2.2.2.2.1 bt516.2.2.2.2.2.2.2.2.2.1 bt516.2.2.2.2.2.2.2.2.2.2.1 bt516.2.2.2.2.2.2.2.2.2.2.2.1 bt516.2.2.2.2.2.2.2.2.2.2.2.2) else (if a3_0 > 549755813888 then (drumlinelaw8_ClockTick.j0 k a2 a4 a1_0 a1_1 a3_0 a3_1 true bt516.1 bt516.2.1 bt516.2.2.1 bt516.2.2.2.1 bt516.2.2.2.2.1 bt516.2.2.2.2.2.1 bt516.2.2.2.2.2.2.1 bt516.2.2.2.2.2.2.2.1 bt516.2.2.2.2.2.2.2.2.1 bt516.2.2.2.2.2.2.2.2.2.1 bt516.2.2.2.2.2.2.2.2.2.2.1 bt516.2.2.2.2.2.2.2.2.2.2.2.1 bt516.2.2.2.2.2.2.2.2.2.2.2.2) else (if a3_1 < (-549755813888) then (drumlinelaw8_ClockTick.j0 k a2 a4 a1_0 a1_1 a3_0 a3_1 true bt516.1 bt516.2.1 bt516.2.2.1 bt516.2.2.2.1 bt516.2.2.2.2.1 bt516.2.2.2.2.2.1 bt516.2.2.2.2.2.2.1 bt516.2.2.2.2.2.2.2.1 bt516.2.2.2.2.2.2.2.2.1 bt516.2.2.2.2.2.2.2.2.2.1 bt516.2.2.2.2.2.2.2.2.2.2.1 bt516.2.2.2.2.2.2.2.2.2.2.2.1 bt516.2.2.2.2.2.2.2.2.2.2.2.2) else (drumlinelaw8_ClockTick.j0 k a2 a4 a1_0 a1_1 a3_0 a3_1 (decide (a3_1 > 549755813888)) bt516.1 bt516.2.1 bt516.2.2.1 bt516.2.2.2.1 bt516.2.2.2.2.1 bt516.2.2.2.2.2.1 bt516.2.2.2.2.2.2.1 bt516.2.2.2.2.2.2.2.1 bt516.2.2.2.2.2.2.2.2.1 bt516.2.2.2.2.2.2.2.2.2.1 bt516.2.2.2.2.2.2.2.2.2.2.1 bt516.2.2.2.2.2.2.2.2.2.2.2.1 bt516.2.2.2.2.2.2.2.2.2.2.2.2))))))))))) else (some false)) = some r := H
 have A6 := Aside0.mk A60
 clear A60
 by_cases c7 : t515 = true
 ·subst c7
  have H1 : ((drumlineref26_Made.f a0).bind fun bt516 => (if a1_0 < (wrap64 (-bt516.2.2.2.2.2.2.1)) then (drumlinelaw8_ClockTick.j0 k a2 a4 a1_0 a1_1 a3_0 a3_1 true bt516.1 bt516.2.1 bt516.2.2.1 bt516.2.2.2.1 bt516.2.2.2.2.1 bt516.2.2.2.2.2.1 bt516.2.2.2.2.2.2.1 bt516.2.2.2.2.2.2.2.1 bt516.2.2.2.2.2.2.2.2.1 bt516.2.2.2.2.2.2.2.2.2.1 bt516.2.2.2.2.2.2.2.2.2.2.1 bt516.2.2.2.2.2.2.2.2.2.2.2.1 bt516.2.2.2.2.2.2.2.2.2.2.2.2) else (if a1_0 > bt516.2.2.2.2.2.2.1 then (drumlinelaw8_ClockTick.j0 k a2 a4 a1_0 a1_1 a3_0 a3_1 true bt516.1 bt516.2.1 bt516.2.2.1 bt516.2.2.2.1 bt516.2.2.2.2.1 bt516.2.2.2.2.2.1 bt516.2.2.2.2.2.2.1 bt516.2.2.2.2.2.2.2.1 bt516.2.2.2.2.2.2.2.2.1 bt516.2.2.2.2.2.2.2.2.2.1 bt516.2.2.2.2.2.2.2.2.2.2.1 bt516.2.2.2.2.2.2.2.2.2.2.2.1 bt516.2.2.2.2.2.2.2.2.2.2.2.2) else (if a1_1 < (wrap64 (-bt516.2.2.2.2.2.2.1)) then (drumlinelaw8_ClockTick.j0 k a2 a4 a1_0 a1_1 a3_0 a3_1 true bt516.1 bt516.2.1 bt516.2.2.1 bt516.2.2.2.1 bt516.2.2.2.2.1 bt516.2.2.2.2.2.1 bt516.2.2.2.2.2.2.1 bt516.2.2.2.2.2.2.2.1 bt516.2.2.2.2.2.2.2.2.1 bt516.2.2.2.2.2.2.2.2.2.1 bt516.2.2.2.2.2.2.2.2.2.2.1 bt516.2.2.2.2.2.2.2.2.2.2.2.1 bt516.2.2.2.2.2.2.2.2.2.2.2.2) else (if a1_1 > bt516.2.2.2.2.2.2.1 then (drumlinelaw8_ClockTick.j0 k a2 a4 a1_0 a1_1 a3_0 a3_1 true bt516.1 bt516.2.1 bt516.2.2.1 bt516.2.2.2.1 bt516.2.2.2.2.1 bt516.2.2.2.2.2.1 bt516.2.2.2.2.2.2.1 bt516.2.2.2.2.2.2.2.1 bt516.2.2.2.2.2.2.2.2.1 bt516.2.2.2.2.2.2.2.2.2.1 bt516.2.2.2.2.2.2.2.2.2.2.1 bt516.2.2.2.2.2.2.2.2.2.2.2.1 bt516.2.2.2.2.2.2.2.2.2.2.2.2) else (if a2 < (wrap64 (-bt516.2.2.2.2.2.2.2.1)) then (drumlinelaw8_ClockTick.j0 k a2 a4 a1_0 a1_1 a3_0 a3_1 true bt516.1 bt516.2.1 bt516.2.2.1 bt516.2.2.2.1 bt516.2.2.2.2.1 bt516.2.2.2.2.2.1 bt516.2.2.2.2.2.2.1 bt516.2.2.2.2.2.2.2.1 bt516.2.2.2.2.2.2.2.2.1 bt516.2.2.2.2.2.2.2.2.2.1 bt516.2.2.2.2.2.2.2.2.2.2.1 bt516.2.2.2.2.2.2.2.2.2.2.2.1 bt516.2.2.2.2.2.2.2.2.2.2.2.2) else (if a2 > bt516.2.2.2.2.2.2.2.1 then (drumlinelaw8_ClockTick.j0 k a2 a4 a1_0 a1_1 a3_0 a3_1 true bt516.1 bt516.2.1 bt516.2.2.1 bt516.2.2.2.1 bt516.2.2.2.2.1 bt516.2.2.2.2.2.1 bt516.2.2.2.2.2.2.1 bt516.2.2.2.2.2.2.2.1 bt516.2.2.2.2.2.2.2.2.1 bt516.2.2.2.2.2.2.2.2.2.1 bt516.2.2.2.2.2.2.2.2.2.2.1 bt516.2.2.2.2.2.2.2.2.2.2.2.1 bt516.2.2.2.2.2.2.2.2.2.2.2.2) else (if a3_0 < (-549755813888) then (drumlinelaw8_ClockTick.j0 k a2 a4 a1_0 a1_1 a3_0 a3_1 true bt516.1 bt516.2.1 bt516.2.2.1 bt516.2.2.2.1 bt516.2.2.2.2.1 bt516.2.2.2.2.2.1 bt516.2.2.2.2.2.2.1 bt516.2.2.2.2.2.2.2.1 bt516.2.2.2.2.2.2.2.2.1 bt516.2.2.2.2.2.2.2.2.2.1 bt516.2.2.2.2.2.2.2.2.2.2.1 bt516.2.2.2.2.2.2.2.2.2.2.2.1 bt516.2.2.2.2.2.2.2.2.2.2.2.2) else (if a3_0 > 549755813888 then (drumlinelaw8_ClockTick.j0 k a2 a4 a1_0 a1_1 a3_0 a3_1 true bt516.1 bt516.2.1 bt516.2.2.1 bt516.2.2.2.1 bt516.2.2.2.2.1 bt516.2.2.2.2.2.1 bt516.2.2.2.2.2.2.1 bt516.2.2.2.2.2.2.2.1 bt516.2.2.2.2.2.2.2.2.1 bt516.2.2.2.2.2.2.2.2.2.1 bt516.2.2.2.2.2.2.2.2.2.2.1 bt516.2.2.2.2.2.2.2.2.2.2.2.1 bt516.2.2.2.2.2.2.2.2.2.2.2.2) else (if a3_1 < (-549755813888) then (drumlinelaw8_ClockTick.j0 k a2 a4 a1_0 a1_1 a3_0 a3_1 true bt516.1 bt516.2.1 bt516.2.2.1 bt516.2.2.2.1 bt516.2.2.2.2.1 bt516.2.2.2.2.2.1 bt516.2.2.2.2.2.2.1 bt516.2.2.2.2.2.2.2.1 bt516.2.2.2.2.2.2.2.2.1 bt516.2.2.2.2.2.2.2.2.2.1 bt516.2.2.2.2.2.2.2.2.2.2.1 bt516.2.2.2.2.2.2.2.2.2.2.2.1 bt516.2.2.2.2.2.2.2.2.2.2.2.2) else (drumlinelaw8_ClockTick.j0 k a2 a4 a1_0 a1_1 a3_0 a3_1 (decide (a3_1 > 549755813888)) bt516.1 bt516.2.1 bt516.2.2.1 bt516.2.2.2.1 bt516.2.2.2.2.1 bt516.2.2.2.2.2.1 bt516.2.2.2.2.2.2.1 bt516.2.2.2.2.2.2.2.1 bt516.2.2.2.2.2.2.2.2.1 bt516.2.2.2.2.2.2.2.2.2.1 bt516.2.2.2.2.2.2.2.2.2.2.1 bt516.2.2.2.2.2.2.2.2.2.2.2.1 bt516.2.2.2.2.2.2.2.2.2.2.2.2))))))))))) = some r := by rw [if_pos rfl] at H; exact H
  clear H
  have H := H1
  clear H1
  replace H := Option.bind_eq_some_iff.mp H
  obtain ⟨⟨t516, t519, t522, t523, t524, t525, t526, t527, t528, t529, t530, t531, t532⟩, A80, H⟩ := H
  replace H : (if a1_0 < (wrap64 (-t526)) then (drumlinelaw8_ClockTick.j0 k a2 a4 a1_0 a1_1 a3_0 a3_1 true t516 t519 t522 t523 t524 t525 t526 t527 t528 t529 t530 t531 t532) else (if a1_0 > t526 then (drumlinelaw8_ClockTick.j0 k a2 a4 a1_0 a1_1 a3_0 a3_1 true t516 t519 t522 t523 t524 t525 t526 t527 t528 t529 t530 t531 t532) else (if a1_1 < (wrap64 (-t526)) then (drumlinelaw8_ClockTick.j0 k a2 a4 a1_0 a1_1 a3_0 a3_1 true t516 t519 t522 t523 t524 t525 t526 t527 t528 t529 t530 t531 t532) else (if a1_1 > t526 then (drumlinelaw8_ClockTick.j0 k a2 a4 a1_0 a1_1 a3_0 a3_1 true t516 t519 t522 t523 t524 t525 t526 t527 t528 t529 t530 t531 t532) else (if a2 < (wrap64 (-t527)) then (drumlinelaw8_ClockTick.j0 k a2 a4 a1_0 a1_1 a3_0 a3_1 true t516 t519 t522 t523 t524 t525 t526 t527 t528 t529 t530 t531 t532) else (if a2 > t527 then (drumlinelaw8_ClockTick.j0 k a2 a4 a1_0 a1_1 a3_0 a3_1 true t516 t519 t522 t523 t524 t525 t526 t527 t528 t529 t530 t531 t532) else (if a3_0 < (-549755813888) then (drumlinelaw8_ClockTick.j0 k a2 a4 a1_0 a1_1 a3_0 a3_1 true t516 t519 t522 t523 t524 t525 t526 t527 t528 t529 t530 t531 t532) else (if a3_0 > 549755813888 then (drumlinelaw8_ClockTick.j0 k a2 a4 a1_0 a1_1 a3_0 a3_1 true t516 t519 t522 t523 t524 t525 t526 t527 t528 t529 t530 t531 t532) else (if a3_1 < (-549755813888) then (drumlinelaw8_ClockTick.j0 k a2 a4 a1_0 a1_1 a3_0 a3_1 true t516 t519 t522 t523 t524 t525 t526 t527 t528 t529 t530 t531 t532) else (drumlinelaw8_ClockTick.j0 k a2 a4 a1_0 a1_1 a3_0 a3_1 (decide (a3_1 > 549755813888)) t516 t519 t522 t523 t524 t525 t526 t527 t528 t529 t530 t531 t532)))))))))) = some r := H
  have A8 := Aside0.mk A80
  clear A80
  have HC9 := Aside0.mk H
  clear H
  go_enter Tryd.func9, Tryd.ntmps9
  try go_wp2_with (first | ((with_reducible refine gate_dst (N := 6) rfl ?_); refine box_event ?hg (N := 6) ?hd (cs := #[.int .i64 a1_0, .int .i64 a1_1]) (t := 35) ?hr ?_; (case hd => rfl); (case hg => rfl); (case hr => first | (go_simp; done) | (go_simp; rfl)); intro gb513 hg w10 hbox hb; have n0_ := Aside0.mk (below_step (by repeat (first | (with_reducible first | exact HB.out | apply below_alloc | apply pw_below_drewN | apply below_drew1) | exact HB.out)) hb); have n1_ := Aside0.mk (hbox); have n2_ := Aside0.mk ((by rw [hg]; exact (below_size (by repeat (first | (with_reducible first | exact HB.out | apply below_alloc | apply pw_below_drewN | apply below_drew1) | exact HB.out))) : w.heap.size ≤ gb513)); have n3_ := Aside0.mk ((by rw [hg]; exact (below_size (by repeat (first | (with_reducible first | exact HB.out | apply below_alloc | apply pw_below_drewN | apply below_drew1) | exact HB.out))) : w.heap.size ≤ gb513)); clear HB; have HB := n0_; have BK513 := n1_; have GW513 := n2_; have GE513 := n3_; clear n0_ n1_ n2_ n3_; clear hb hbox hg) | ((with_reducible refine gate_dst (N := 8) rfl ?_); refine box_event ?hg (N := 8) ?hd (cs := #[.int .i64 a3_0, .int .i64 a3_1]) (t := 47) ?hr ?_; (case hd => rfl); (case hg => rfl); (case hr => first | (go_simp; done) | (go_simp; rfl)); intro gb514 hg w11 hbox hb; have n0_ := Aside0.mk (blk_below (g := gb513) (o := .cells #[.int .i64 a1_0, .int .i64 a1_1] 35 (0, 0)) (by (with_reducible repeat (first | refine blk_drewN ?_ _ | refine blk_drew ?_ | refine blk_alloc ?_ _)); exact BK513.out) hb); have n1_ := Aside0.mk (below_step (by repeat (first | (with_reducible first | exact HB.out | apply below_alloc | apply pw_below_drewN | apply below_drew1 | refine below_set ?_ GE513.out) | exact HB.out)) hb); have n2_ := Aside0.mk (hbox); have n3_ := Aside0.mk ((by rw [hg]; exact (below_size (by repeat (first | (with_reducible first | exact HB.out | apply below_alloc | apply pw_below_drewN | apply below_drew1 | refine below_set ?_ GE513.out) | exact HB.out))) : w.heap.size ≤ gb514)); have n4_ := Aside0.mk ((by rw [hg]; exact (below_size (by repeat (first | (with_reducible first | exact HB.out | apply below_alloc | apply pw_below_drewN | apply below_drew1 | refine below_set ?_ GE513.out) | exact HB.out))) : w.heap.size ≤ gb514)); have n5_ := Aside0.mk ((by rw [hg]; exact Nat.ne_of_lt (blk_lt (g := gb513) (o := .cells #[.int .i64 a1_0, .int .i64 a1_1] 35 (0, 0)) (by (with_reducible repeat (first | refine blk_drewN ?_ _ | refine blk_drew ?_ | refine blk_alloc ?_ _)); exact BK513.out)) : gb513 ≠ gb514)); have n6_ := Aside0.mk ((by rw [hg]; exact Nat.ne_of_gt (blk_lt (g := gb513) (o := .cells #[.int .i64 a1_0, .int .i64 a1_1] 35 (0, 0)) (by (with_reducible repeat (first | refine blk_drewN ?_ _ | refine blk_drew ?_ | refine blk_alloc ?_ _)); exact BK513.out)) : gb514 ≠ gb513)); clear BK513; clear HB; have BK513 := n0_; have HB := n1_; have BK514 := n2_; have GW514 := n3_; have GE514 := n4_; have NB513_514 := n5_; have NB514_513 := n6_; clear n0_ n1_ n2_ n3_ n4_ n5_ n6_; clear hb hbox hg) | ((with_reducible refine gate_callee (f := 21) rfl ?_); refine goesL_ (some 21) rfl rfl Tryd.func21 (by kernel_rfl) rfl #[] rfl (by (try simp only [List.map_toArray, List.map_cons, List.map_nil]); first | done | rfl | (simp only [List.length_drop, List.length_take]; rfl)) ?_; (with_reducible refine (drumlinelaw8_alive.calls  true _ A6.out).mono ?_); rintro e w' ⟨rfl, ⟨nd, rfl⟩⟩; refine ⟨_, rfl, ?_⟩; (try (rw [drewN_self w11]; generalize hq_ : World.drewN w11 _ = w11; have n0_ : Aside0 (w11.heap[gb513]? = some (.cells #[.int .i64 a1_0, .int .i64 a1_1] 35 (0, 0))) := ⟨by rw [← hq_]; exact (by (with_reducible repeat (first | refine blk_drewN ?_ _ | refine blk_drew ?_ | refine blk_alloc ?_ _)); exact BK513.out)⟩; have n1_ : Aside0 (w11.heap[gb514]? = some (.cells #[.int .i64 a3_0, .int .i64 a3_1] 47 (0, 0))) := ⟨by rw [← hq_]; exact (by (with_reducible repeat (first | refine blk_drewN ?_ _ | refine blk_drew ?_ | refine blk_alloc ?_ _)); exact BK514.out)⟩; have n2_ : Aside0 (Below w.heap.size w w11) := ⟨by rw [← hq_]; exact (by repeat (first | (with_reducible first | exact HB.out | apply below_alloc | apply pw_below_drewN | apply below_drew1 | refine below_set ?_ GE513.out | refine below_set ?_ GE514.out) | exact HB.out))⟩; clear BK513 BK514 HB hq_; have BK513 := n0_; have BK514 := n1_; have HB := n2_; clear n0_ n1_ n2_))) | ((with_reducible refine gate_callee (f := 20) rfl ?_); refine goesL_ (some 24) rfl rfl Tryd.func20 (by kernel_rfl) rfl #[.int .i64 a0] rfl (by (try simp only [List.map_toArray, List.map_cons, List.map_nil]); first | done | rfl | (simp only [List.length_drop, List.length_take]; rfl)) ?_; (with_reducible refine (drumlineref26_Made.calls a0 t516 t519 t522 t523 t524 t525 t526 t527 t528 t529 t530 t531 t532 _ A8.out).mono ?_); rintro e w12 ⟨v517, v520, rfl, ho0, ho1, hb⟩; refine ⟨_, rfl, ?_⟩; have n0_ := Aside0.mk (Kd.R_lower ho0 (below_size (by repeat (first | (with_reducible first | exact HB.out | apply below_alloc | apply pw_below_drewN | apply below_drew1 | refine below_set ?_ GE513.out | refine below_set ?_ GE514.out) | exact HB.out)))); have n1_ := Aside0.mk (Kd.R_lower ho1 (below_size (by repeat (first | (with_reducible first | exact HB.out | apply below_alloc | apply pw_below_drewN | apply below_drew1 | refine below_set ?_ GE513.out | refine below_set ?_ GE514.out) | exact HB.out)))); have n2_ := Aside0.mk (blk_below (g := gb513) (o := .cells #[.int .i64 a1_0, .int .i64 a1_1] 35 (0, 0)) (by (with_reducible repeat (first | refine blk_drewN ?_ _ | refine blk_drew ?_ | refine blk_alloc ?_ _)); exact BK513.out) hb); have n3_ := Aside0.mk (blk_below (g := gb514) (o := .cells #[.int .i64 a3_0, .int .i64 a3_1] 47 (0, 0)) (by (with_reducible repeat (first | refine blk_drewN ?_ _ | refine blk_drew ?_ | refine blk_alloc ?_ _)); exact BK514.out) hb); have n4_ := Aside0.mk (below_step (by repeat (first | (with_reducible first | exact HB.out | apply below_alloc | apply pw_below_drewN | apply below_drew1 | refine below_set ?_ GE513.out | refine below_set ?_ GE514.out) | exact HB.out)) hb); clear BK513; clear BK514; clear HB; have HO518 := n0_; have HO521 := n1_; have BK513 := n2_; have BK514 := n3_; have HB := n4_; clear n0_ n1_ n2_ n3_ n4_; (try clear hb); (try clear hb2); (try clear hk); (try clear hi); (try clear ho0); (try clear ho1)) | ((with_reducible refine gate_dst (N := 11) rfl ?_); refine box_event ?hg (N := 11) ?hd (cs := #[.slice none 0 0, .slice none 0 0, .int .i64 0, .int .i64 0, .int .i64 0, .int .i64 0, .int .i64 0, .int .i64 0, .int .i64 0, .int .i64 0, .int .i64 0, .int .i64 0, .int .i64 0]) (t := 25) ?hr ?_; (case hd => rfl); (case hg => rfl); (case hr => first | (go_simp; done) | (go_simp; rfl)); intro gb533 hg w13 hbox hb; have n0_ := Aside0.mk (Kd.R_below (by (with_reducible repeat (first | apply Kd.R_alloc | apply Kd.R_drewN | apply Kd.R_drew)); exact HO518.out) hb); have n1_ := Aside0.mk (Kd.R_below (by (with_reducible repeat (first | apply Kd.R_alloc | apply Kd.R_drewN | apply Kd.R_drew)); exact HO521.out) hb); have n2_ := Aside0.mk (blk_below (g := gb513) (o := .cells #[.int .i64 a1_0, .int .i64 a1_1] 35 (0, 0)) (by (with_reducible repeat (first | refine blk_drewN ?_ _ | refine blk_drew ?_ | refine blk_alloc ?_ _)); exact BK513.out) hb); have n3_ := Aside0.mk (blk_below (g := gb514) (o := .cells #[.int .i64 a3_0, .int .i64 a3_1] 47 (0, 0)) (by (with_reducible repeat (first | refine blk_drewN ?_ _ | refine blk_drew ?_ | refine blk_alloc ?_ _)); exact BK514.out) hb); have n4_ := Aside0.mk (below_step (by repeat (first | (with_reducible first | exact HB.out | apply below_alloc | apply pw_below_drewN | apply below_drew1 | refine below_set ?_ GE513.out | refine below_set ?_ GE514.out) | exact HB.out)) hb); have n5_ := Aside0.mk (hbox); have n6_ := Aside0.mk ((by rw [hg]; exact (below_size (by repeat (first | (with_reducible first | exact HB.out | apply below_alloc | apply pw_below_drewN | apply below_drew1 | refine below_set ?_ GE513.out | refine below_set ?_ GE514.out) | exact HB.out))) : w.heap.size ≤ gb533)); have n7_ := Aside0.mk ((by rw [hg]; exact (below_size (by repeat (first | (with_reducible first | exact HB.out | apply below_alloc | apply pw_below_drewN | apply below_drew1 | refine below_set ?_ GE513.out | refine below_set ?_ GE514.out) | exact HB.out))) : w.heap.size ≤ gb533)); have n8_ := Aside0.mk ((by rw [hg]; exact Nat.ne_of_lt (blk_lt (g := gb513) (o := .cells #[.int .i64 a1_0, .int .i64 a1_1] 35 (0, 0)) (by (with_reducible repeat (first | refine blk_drewN ?_ _ | refine blk_drew ?_ | refine blk_alloc ?_ _)); exact BK513.out)) : gb513 ≠ gb533)); have n9_ := Aside0.mk ((by rw [hg]; exact Nat.ne_of_gt (blk_lt (g := gb513) (o := .cells #[.int .i64 a1_0, .int .i64 a1_1] 35 (0, 0)) (by (with_reducible repeat (first | refine blk_drewN ?_ _ | refine blk_drew ?_ | refine blk_alloc ?_ _)); exact BK513.out)) : gb533 ≠ gb513)); have n10_ := Aside0.mk ((by rw [hg]; exact Nat.ne_of_lt (blk_lt (g := gb514) (o := .cells #[.int .i64 a3_0, .int .i64 a3_1] 47 (0, 0)) (by (with_reducible repeat (first | refine blk_drewN ?_ _ | refine blk_drew ?_ | refine blk_alloc ?_ _)); exact BK514.out)) : gb514 ≠ gb533)); have n11_ := Aside0.mk ((by rw [hg]; exact Nat.ne_of_gt (blk_lt (g := gb514) (o := .cells #[.int .i64 a3_0, .int .i64 a3_1] 47 (0, 0)) (by (with_reducible repeat (first | refine blk_drewN ?_ _ | refine blk_drew ?_ | refine blk_alloc ?_ _)); exact BK514.out)) : gb533 ≠ gb514)); clear HO518; clear HO521; clear BK513; clear BK514; clear HB; have HO518 := n0_; have HO521 := n1_; have BK513 := n2_; have BK514 := n3_; have HB := n4_; have BK533 := n5_; have GW533 := n6_; have GE533 := n7_; have NB513_533 := n8_; have NB533_513 := n9_; have NB514_533 := n10_; have NB533_514 := n11_; clear n0_ n1_ n2_ n3_ n4_ n5_ n6_ n7_ n8_ n9_ n10_ n11_; clear hb hbox hg; obtain ⟨Ao14, co14, eo14⟩ := Kd.R_slice HO518.out; subst eo14; have hnb15 := NB533_513.out; have hnc15 := NB513_533.out; have hnb16 := NB533_514.out; have hnc16 := NB514_533.out; obtain ⟨hcz17_0, hcz17_1, hcz17_2, hcz17_3, hcz17_4, hcz17_5, hcz17_6, hcz17_7, hcz17_8, hcz17_9, hcz17_10, hcz17_11, hcz17_12⟩ := cellsK13 BK533.out; obtain ⟨hfz17_0, hfz17_1, hfz17_2, hfz17_3, hfz17_4, hfz17_5, hfz17_6, hfz17_7, hfz17_8, hfz17_9, hfz17_10, hfz17_11, hfz17_12⟩ := frozK13 BK533.out; obtain ⟨Ao18, co18, eo18⟩ := Kd.R_slice HO521.out; subst eo18))
  have n0_ : Aside0 (Kd.R k60 60 (((((((((((((w13.setCell ⟨gb533, 0, none⟩ (.slice Ao14 t516.length co14)).setCell ⟨gb533, 1, none⟩ (.slice Ao18 t519.length co18)).setCell ⟨gb533, 2, none⟩ (.int .i64 t522)).setCell ⟨gb533, 3, none⟩ (.int .i64 t523)).setCell ⟨gb533, 4, none⟩ (.int .i64 t524)).setCell ⟨gb533, 5, none⟩ (.int .i64 t525)).setCell ⟨gb533, 6, none⟩ (.int .i64 t526)).setCell ⟨gb533, 7, none⟩ (.int .i64 t527)).setCell ⟨gb533, 8, none⟩ (.int .i64 t528)).setCell ⟨gb533, 9, none⟩ (.int .i64 t529)).setCell ⟨gb533, 10, none⟩ (.int .i64 t530)).setCell ⟨gb533, 11, none⟩ (.int .i64 t531)).setCell ⟨gb533, 12, none⟩ (.int .i64 t532)) w.heap.size (fun _ => True) (.slice Ao14 t516.length co14) t516) := ⟨by (with_reducible repeat (first | apply Kd.R_alloc | apply Kd.R_drewN | apply Kd.R_drew)); exact Kd.R_mono (Kd.R_far (p := ⟨gb533, 12, none⟩) (Kd.R_far (p := ⟨gb533, 11, none⟩) (Kd.R_far (p := ⟨gb533, 10, none⟩) (Kd.R_far (p := ⟨gb533, 9, none⟩) (Kd.R_far (p := ⟨gb533, 8, none⟩) (Kd.R_far (p := ⟨gb533, 7, none⟩) (Kd.R_far (p := ⟨gb533, 6, none⟩) (Kd.R_far (p := ⟨gb533, 5, none⟩) (Kd.R_far (p := ⟨gb533, 4, none⟩) (Kd.R_far (p := ⟨gb533, 3, none⟩) (Kd.R_far (p := ⟨gb533, 2, none⟩) (Kd.R_far (p := ⟨gb533, 1, none⟩) (Kd.R_far (p := ⟨gb533, 0, none⟩) (Kd.R_types HO518.out BK533.out (by decide)) (fun _ hk => hk.2) (.slice Ao14 t516.length co14)) (fun _ hk => hk.2) (.slice Ao18 t519.length co18)) (fun _ hk => hk.2) (.int .i64 t522)) (fun _ hk => hk.2) (.int .i64 t523)) (fun _ hk => hk.2) (.int .i64 t524)) (fun _ hk => hk.2) (.int .i64 t525)) (fun _ hk => hk.2) (.int .i64 t526)) (fun _ hk => hk.2) (.int .i64 t527)) (fun _ hk => hk.2) (.int .i64 t528)) (fun _ hk => hk.2) (.int .i64 t529)) (fun _ hk => hk.2) (.int .i64 t530)) (fun _ hk => hk.2) (.int .i64 t531)) (fun _ hk => hk.2) (.int .i64 t532)) (fun _ hk => trivial)⟩
  have n1_ : Aside0 (Kd.R k37 37 (((((((((((((w13.setCell ⟨gb533, 0, none⟩ (.slice Ao14 t516.length co14)).setCell ⟨gb533, 1, none⟩ (.slice Ao18 t519.length co18)).setCell ⟨gb533, 2, none⟩ (.int .i64 t522)).setCell ⟨gb533, 3, none⟩ (.int .i64 t523)).setCell ⟨gb533, 4, none⟩ (.int .i64 t524)).setCell ⟨gb533, 5, none⟩ (.int .i64 t525)).setCell ⟨gb533, 6, none⟩ (.int .i64 t526)).setCell ⟨gb533, 7, none⟩ (.int .i64 t527)).setCell ⟨gb533, 8, none⟩ (.int .i64 t528)).setCell ⟨gb533, 9, none⟩ (.int .i64 t529)).setCell ⟨gb533, 10, none⟩ (.int .i64 t530)).setCell ⟨gb533, 11, none⟩ (.int .i64 t531)).setCell ⟨gb533, 12, none⟩ (.int .i64 t532)) w.heap.size (fun _ => True) (.slice Ao18 t519.length co18) t519) := ⟨by (with_reducible repeat (first | apply Kd.R_alloc | apply Kd.R_drewN | apply Kd.R_drew)); exact Kd.R_mono (Kd.R_far (p := ⟨gb533, 12, none⟩) (Kd.R_far (p := ⟨gb533, 11, none⟩) (Kd.R_far (p := ⟨gb533, 10, none⟩) (Kd.R_far (p := ⟨gb533, 9, none⟩) (Kd.R_far (p := ⟨gb533, 8, none⟩) (Kd.R_far (p := ⟨gb533, 7, none⟩) (Kd.R_far (p := ⟨gb533, 6, none⟩) (Kd.R_far (p := ⟨gb533, 5, none⟩) (Kd.R_far (p := ⟨gb533, 4, none⟩) (Kd.R_far (p := ⟨gb533, 3, none⟩) (Kd.R_far (p := ⟨gb533, 2, none⟩) (Kd.R_far (p := ⟨gb533, 1, none⟩) (Kd.R_far (p := ⟨gb533, 0, none⟩) (Kd.R_types HO521.out BK533.out (by decide)) (fun _ hk => hk.2) (.slice Ao14 t516.length co14)) (fun _ hk => hk.2) (.slice Ao18 t519.length co18)) (fun _ hk => hk.2) (.int .i64 t522)) (fun _ hk => hk.2) (.int .i64 t523)) (fun _ hk => hk.2) (.int .i64 t524)) (fun _ hk => hk.2) (.int .i64 t525)) (fun _ hk => hk.2) (.int .i64 t526)) (fun _ hk => hk.2) (.int .i64 t527)) (fun _ hk => hk.2) (.int .i64 t528)) (fun _ hk => hk.2) (.int .i64 t529)) (fun _ hk => hk.2) (.int .i64 t530)) (fun _ hk => hk.2) (.int .i64 t531)) (fun _ hk => hk.2) (.int .i64 t532)) (fun _ hk => trivial)⟩
  have n2_ : Aside0 ((((((((((((((w13.setCell ⟨gb533, 0, none⟩ (.slice Ao14 t516.length co14)).setCell ⟨gb533, 1, none⟩ (.slice Ao18 t519.length co18)).setCell ⟨gb533, 2, none⟩ (.int .i64 t522)).setCell ⟨gb533, 3, none⟩ (.int .i64 t523)).setCell ⟨gb533, 4, none⟩ (.int .i64 t524)).setCell ⟨gb533, 5, none⟩ (.int .i64 t525)).setCell ⟨gb533, 6, none⟩ (.int .i64 t526)).setCell ⟨gb533, 7, none⟩ (.int .i64 t527)).setCell ⟨gb533, 8, none⟩ (.int .i64 t528)).setCell ⟨gb533, 9, none⟩ (.int .i64 t529)).setCell ⟨gb533, 10, none⟩ (.int .i64 t530)).setCell ⟨gb533, 11, none⟩ (.int .i64 t531)).setCell ⟨gb533, 12, none⟩ (.int .i64 t532)).heap[gb513]? = some (.cells #[.int .i64 a1_0, .int .i64 a1_1] 35 (0, 0))) := ⟨by (with_reducible repeat (first | refine blk_drewN ?_ _ | refine blk_drew ?_ | refine blk_alloc ?_ _)); refine blk_far ?_ NB513_533.out _; (with_reducible repeat (first | refine blk_drewN ?_ _ | refine blk_drew ?_ | refine blk_alloc ?_ _)); refine blk_far ?_ NB513_533.out _; (with_reducible repeat (first | refine blk_drewN ?_ _ | refine blk_drew ?_ | refine blk_alloc ?_ _)); refine blk_far ?_ NB513_533.out _; (with_reducible repeat (first | refine blk_drewN ?_ _ | refine blk_drew ?_ | refine blk_alloc ?_ _)); refine blk_far ?_ NB513_533.out _; (with_reducible repeat (first | refine blk_drewN ?_ _ | refine blk_drew ?_ | refine blk_alloc ?_ _)); refine blk_far ?_ NB513_533.out _; (with_reducible repeat (first | refine blk_drewN ?_ _ | refine blk_drew ?_ | refine blk_alloc ?_ _)); refine blk_far ?_ NB513_533.out _; (with_reducible repeat (first | refine blk_drewN ?_ _ | refine blk_drew ?_ | refine blk_alloc ?_ _)); refine blk_far ?_ NB513_533.out _; (with_reducible repeat (first | refine blk_drewN ?_ _ | refine blk_drew ?_ | refine blk_alloc ?_ _)); refine blk_far ?_ NB513_533.out _; (with_reducible repeat (first | refine blk_drewN ?_ _ | refine blk_drew ?_ | refine blk_alloc ?_ _)); refine blk_far ?_ NB513_533.out _; (with_reducible repeat (first | refine blk_drewN ?_ _ | refine blk_drew ?_ | refine blk_alloc ?_ _)); refine blk_far ?_ NB513_533.out _; (with_reducible repeat (first | refine blk_drewN ?_ _ | refine blk_drew ?_ | refine blk_alloc ?_ _)); refine blk_far ?_ NB513_533.out _; (with_reducible repeat (first | refine blk_drewN ?_ _ | refine blk_drew ?_ | refine blk_alloc ?_ _)); refine blk_far ?_ NB513_533.out _; (with_reducible repeat (first | refine blk_drewN ?_ _ | refine blk_drew ?_ | refine blk_alloc ?_ _)); refine blk_far ?_ NB513_533.out _; (with_reducible repeat (first | refine blk_drewN ?_ _ | refine blk_drew ?_ | refine blk_alloc ?_ _)); exact BK513.out⟩
  have n3_ : Aside0 ((((((((((((((w13.setCell ⟨gb533, 0, none⟩ (.slice Ao14 t516.length co14)).setCell ⟨gb533, 1, none⟩ (.slice Ao18 t519.length co18)).setCell ⟨gb533, 2, none⟩ (.int .i64 t522)).setCell ⟨gb533, 3, none⟩ (.int .i64 t523)).setCell ⟨gb533, 4, none⟩ (.int .i64 t524)).setCell ⟨gb533, 5, none⟩ (.int .i64 t525)).setCell ⟨gb533, 6, none⟩ (.int .i64 t526)).setCell ⟨gb533, 7, none⟩ (.int .i64 t527)).setCell ⟨gb533, 8, none⟩ (.int .i64 t528)).setCell ⟨gb533, 9, none⟩ (.int .i64 t529)).setCell ⟨gb533, 10, none⟩ (.int .i64 t530)).setCell ⟨gb533, 11, none⟩ (.int .i64 t531)).setCell ⟨gb533, 12, none⟩ (.int .i64 t532)).heap[gb514]? = some (.cells #[.int .i64 a3_0, .int .i64 a3_1] 47 (0, 0))) := ⟨by (with_reducible repeat (first | refine blk_drewN ?_ _ | refine blk_drew ?_ | refine blk_alloc ?_ _)); refine blk_far ?_ NB514_533.out _; (with_reducible repeat (first | refine blk_drewN ?_ _ | refine blk_drew ?_ | refine blk_alloc ?_ _)); refine blk_far ?_ NB514_533.out _; (with_reducible repeat (first | refine blk_drewN ?_ _ | refine blk_drew ?_ | refine blk_alloc ?_ _)); refine blk_far ?_ NB514_533.out _; (with_reducible repeat (first | refine blk_drewN ?_ _ | refine blk_drew ?_ | refine blk_alloc ?_ _)); refine blk_far ?_ NB514_533.out _; (with_reducible repeat (first | refine blk_drewN ?_ _ | refine blk_drew ?_ | refine blk_alloc ?_ _)); refine blk_far ?_ NB514_533.out _; (with_reducible repeat (first | refine blk_drewN ?_ _ | refine blk_drew ?_ | refine blk_alloc ?_ _)); refine blk_far ?_ NB514_533.out _; (with_reducible repeat (first | refine blk_drewN ?_ _ | refine blk_drew ?_ | refine blk_alloc ?_ _)); refine blk_far ?_ NB514_533.out _; (with_reducible repeat (first | refine blk_drewN ?_ _ | refine blk_drew ?_ | refine blk_alloc ?_ _)); refine blk_far ?_ NB514_533.out _; (with_reducible repeat (first | refine blk_drewN ?_ _ | refine blk_drew ?_ | refine blk_alloc ?_ _)); refine blk_far ?_ NB514_533.out _; (with_reducible repeat (first | refine blk_drewN ?_ _ | refine blk_drew ?_ | refine blk_alloc ?_ _)); refine blk_far ?_ NB514_533.out _; (with_reducible repeat (first | refine blk_drewN ?_ _ | refine blk_drew ?_ | refine blk_alloc ?_ _)); refine blk_far ?_ NB514_533.out _; (with_reducible repeat (first | refine blk_drewN ?_ _ | refine blk_drew ?_ | refine blk_alloc ?_ _)); refine blk_far ?_ NB514_533.out _; (with_reducible repeat (first | refine blk_drewN ?_ _ | refine blk_drew ?_ | refine blk_alloc ?_ _)); refine blk_far ?_ NB514_533.out _; (with_reducible repeat (first | refine blk_drewN ?_ _ | refine blk_drew ?_ | refine blk_alloc ?_ _)); exact BK514.out⟩
  have n4_ : Aside0 ((((((((((((((w13.setCell ⟨gb533, 0, none⟩ (.slice Ao14 t516.length co14)).setCell ⟨gb533, 1, none⟩ (.slice Ao18 t519.length co18)).setCell ⟨gb533, 2, none⟩ (.int .i64 t522)).setCell ⟨gb533, 3, none⟩ (.int .i64 t523)).setCell ⟨gb533, 4, none⟩ (.int .i64 t524)).setCell ⟨gb533, 5, none⟩ (.int .i64 t525)).setCell ⟨gb533, 6, none⟩ (.int .i64 t526)).setCell ⟨gb533, 7, none⟩ (.int .i64 t527)).setCell ⟨gb533, 8, none⟩ (.int .i64 t528)).setCell ⟨gb533, 9, none⟩ (.int .i64 t529)).setCell ⟨gb533, 10, none⟩ (.int .i64 t530)).setCell ⟨gb533, 11, none⟩ (.int .i64 t531)).setCell ⟨gb533, 12, none⟩ (.int .i64 t532)).heap[gb533]? = some (.cells #[.slice Ao14 t516.length co14, .slice Ao18 t519.length co18, .int .i64 t522, .int .i64 t523, .int .i64 t524, .int .i64 t525, .int .i64 t526, .int .i64 t527, .int .i64 t528, .int .i64 t529, .int .i64 t530, .int .i64 t531, .int .i64 t532] 25 (0, 0))) := ⟨by (with_reducible repeat (first | refine blk_drewN ?_ _ | refine blk_drew ?_ | refine blk_alloc ?_ _)); refine blk_put (cs := #[.slice Ao14 t516.length co14, .slice Ao18 t519.length co18, .int .i64 t522, .int .i64 t523, .int .i64 t524, .int .i64 t525, .int .i64 t526, .int .i64 t527, .int .i64 t528, .int .i64 t529, .int .i64 t530, .int .i64 t531, .int .i64 0]) ?_ 12 _ rfl; (with_reducible repeat (first | refine blk_drewN ?_ _ | refine blk_drew ?_ | refine blk_alloc ?_ _)); refine blk_put (cs := #[.slice Ao14 t516.length co14, .slice Ao18 t519.length co18, .int .i64 t522, .int .i64 t523, .int .i64 t524, .int .i64 t525, .int .i64 t526, .int .i64 t527, .int .i64 t528, .int .i64 t529, .int .i64 t530, .int .i64 0, .int .i64 0]) ?_ 11 _ rfl; (with_reducible repeat (first | refine blk_drewN ?_ _ | refine blk_drew ?_ | refine blk_alloc ?_ _)); refine blk_put (cs := #[.slice Ao14 t516.length co14, .slice Ao18 t519.length co18, .int .i64 t522, .int .i64 t523, .int .i64 t524, .int .i64 t525, .int .i64 t526, .int .i64 t527, .int .i64 t528, .int .i64 t529, .int .i64 0, .int .i64 0, .int .i64 0]) ?_ 10 _ rfl; (with_reducible repeat (first | refine blk_drewN ?_ _ | refine blk_drew ?_ | refine blk_alloc ?_ _)); refine blk_put (cs := #[.slice Ao14 t516.length co14, .slice Ao18 t519.length co18, .int .i64 t522, .int .i64 t523, .int .i64 t524, .int .i64 t525, .int .i64 t526, .int .i64 t527, .int .i64 t528, .int .i64 0, .int .i64 0, .int .i64 0, .int .i64 0]) ?_ 9 _ rfl; (with_reducible repeat (first | refine blk_drewN ?_ _ | refine blk_drew ?_ | refine blk_alloc ?_ _)); refine blk_put (cs := #[.slice Ao14 t516.length co14, .slice Ao18 t519.length co18, .int .i64 t522, .int .i64 t523, .int .i64 t524, .int .i64 t525, .int .i64 t526, .int .i64 t527, .int .i64 0, .int .i64 0, .int .i64 0, .int .i64 0, .int .i64 0]) ?_ 8 _ rfl; (with_reducible repeat (first | refine blk_drewN ?_ _ | refine blk_drew ?_ | refine blk_alloc ?_ _)); refine blk_put (cs := #[.slice Ao14 t516.length co14, .slice Ao18 t519.length co18, .int .i64 t522, .int .i64 t523, .int .i64 t524, .int .i64 t525, .int .i64 t526, .int .i64 0, .int .i64 0, .int .i64 0, .int .i64 0, .int .i64 0, .int .i64 0]) ?_ 7 _ rfl; (with_reducible repeat (first | refine blk_drewN ?_ _ | refine blk_drew ?_ | refine blk_alloc ?_ _)); refine blk_put (cs := #[.slice Ao14 t516.length co14, .slice Ao18 t519.length co18, .int .i64 t522, .int .i64 t523, .int .i64 t524, .int .i64 t525, .int .i64 0, .int .i64 0, .int .i64 0, .int .i64 0, .int .i64 0, .int .i64 0, .int .i64 0]) ?_ 6 _ rfl; (with_reducible repeat (first | refine blk_drewN ?_ _ | refine blk_drew ?_ | refine blk_alloc ?_ _)); refine blk_put (cs := #[.slice Ao14 t516.length co14, .slice Ao18 t519.length co18, .int .i64 t522, .int .i64 t523, .int .i64 t524, .int .i64 0, .int .i64 0, .int .i64 0, .int .i64 0, .int .i64 0, .int .i64 0, .int .i64 0, .int .i64 0]) ?_ 5 _ rfl; (with_reducible repeat (first | refine blk_drewN ?_ _ | refine blk_drew ?_ | refine blk_alloc ?_ _)); refine blk_put (cs := #[.slice Ao14 t516.length co14, .slice Ao18 t519.length co18, .int .i64 t522, .int .i64 t523, .int .i64 0, .int .i64 0, .int .i64 0, .int .i64 0, .int .i64 0, .int .i64 0, .int .i64 0, .int .i64 0, .int .i64 0]) ?_ 4 _ rfl; (with_reducible repeat (first | refine blk_drewN ?_ _ | refine blk_drew ?_ | refine blk_alloc ?_ _)); refine blk_put (cs := #[.slice Ao14 t516.length co14, .slice Ao18 t519.length co18, .int .i64 t522, .int .i64 0, .int .i64 0, .int .i64 0, .int .i64 0, .int .i64 0, .int .i64 0, .int .i64 0, .int .i64 0, .int .i64 0, .int .i64 0]) ?_ 3 _ rfl; (with_reducible repeat (first | refine blk_drewN ?_ _ | refine blk_drew ?_ | refine blk_alloc ?_ _)); refine blk_put (cs := #[.slice Ao14 t516.length co14, .slice Ao18 t519.length co18, .int .i64 0, .int .i64 0, .int .i64 0, .int .i64 0, .int .i64 0, .int .i64 0, .int .i64 0, .int .i64 0, .int .i64 0, .int .i64 0, .int .i64 0]) ?_ 2 _ rfl; (with_reducible repeat (first | refine blk_drewN ?_ _ | refine blk_drew ?_ | refine blk_alloc ?_ _)); refine blk_put (cs := #[.slice Ao14 t516.length co14, .slice none 0 0, .int .i64 0, .int .i64 0, .int .i64 0, .int .i64 0, .int .i64 0, .int .i64 0, .int .i64 0, .int .i64 0, .int .i64 0, .int .i64 0, .int .i64 0]) ?_ 1 _ rfl; (with_reducible repeat (first | refine blk_drewN ?_ _ | refine blk_drew ?_ | refine blk_alloc ?_ _)); refine blk_put (cs := #[.slice none 0 0, .slice none 0 0, .int .i64 0, .int .i64 0, .int .i64 0, .int .i64 0, .int .i64 0, .int .i64 0, .int .i64 0, .int .i64 0, .int .i64 0, .int .i64 0, .int .i64 0]) ?_ 0 _ rfl; (with_reducible repeat (first | refine blk_drewN ?_ _ | refine blk_drew ?_ | refine blk_alloc ?_ _)); exact BK533.out⟩
  have n5_ : Aside0 (Below w.heap.size w (((((((((((((w13.setCell ⟨gb533, 0, none⟩ (.slice Ao14 t516.length co14)).setCell ⟨gb533, 1, none⟩ (.slice Ao18 t519.length co18)).setCell ⟨gb533, 2, none⟩ (.int .i64 t522)).setCell ⟨gb533, 3, none⟩ (.int .i64 t523)).setCell ⟨gb533, 4, none⟩ (.int .i64 t524)).setCell ⟨gb533, 5, none⟩ (.int .i64 t525)).setCell ⟨gb533, 6, none⟩ (.int .i64 t526)).setCell ⟨gb533, 7, none⟩ (.int .i64 t527)).setCell ⟨gb533, 8, none⟩ (.int .i64 t528)).setCell ⟨gb533, 9, none⟩ (.int .i64 t529)).setCell ⟨gb533, 10, none⟩ (.int .i64 t530)).setCell ⟨gb533, 11, none⟩ (.int .i64 t531)).setCell ⟨gb533, 12, none⟩ (.int .i64 t532))) := ⟨by repeat (first | (with_reducible first | exact HB.out | apply below_alloc | apply pw_below_drewN | apply below_drew1 | refine below_set ?_ GE513.out | refine below_set ?_ GE514.out | refine below_set ?_ GE533.out) | exact HB.out)⟩
  (try clear HO518)
  (try clear HO521)
  (try clear BK513)
  (try clear BK514)
  (try clear BK533)
  (try clear HB)
  generalize (((((((((((((w13.setCell ⟨gb533, 0, none⟩ (.slice Ao14 t516.length co14)).setCell ⟨gb533, 1, none⟩ (.slice Ao18 t519.length co18)).setCell ⟨gb533, 2, none⟩ (.int .i64 t522)).setCell ⟨gb533, 3, none⟩ (.int .i64 t523)).setCell ⟨gb533, 4, none⟩ (.int .i64 t524)).setCell ⟨gb533, 5, none⟩ (.int .i64 t525)).setCell ⟨gb533, 6, none⟩ (.int .i64 t526)).setCell ⟨gb533, 7, none⟩ (.int .i64 t527)).setCell ⟨gb533, 8, none⟩ (.int .i64 t528)).setCell ⟨gb533, 9, none⟩ (.int .i64 t529)).setCell ⟨gb533, 10, none⟩ (.int .i64 t530)).setCell ⟨gb533, 11, none⟩ (.int .i64 t531)).setCell ⟨gb533, 12, none⟩ (.int .i64 t532)) = w19 at n0_ n1_ n2_ n3_ n4_ n5_ ⊢
  have HO518 := n0_
  have HO521 := n1_
  have BK513 := n2_
  have BK514 := n3_
  have BK533 := n4_
  have HB := n5_
  clear n0_ n1_ n2_ n3_ n4_ n5_
  have n0_ := Aside0.mk (Kd.R_drew HO518.out)
  have n1_ := Aside0.mk (Kd.R_drew HO521.out)
  have n2_ := Aside0.mk (blk_drew BK513.out)
  have n3_ := Aside0.mk (blk_drew BK514.out)
  have n4_ := Aside0.mk (blk_drew BK533.out)
  have n5_ := Aside0.mk (below_drew1 HB.out)
  clear HO518
  clear HO521
  clear BK513
  clear BK514
  clear BK533
  clear HB
  have HO518 := n0_
  have HO521 := n1_
  have BK513 := n2_
  have BK514 := n3_
  have BK533 := n4_
  have HB := n5_
  clear n0_ n1_ n2_ n3_ n4_ n5_
  refine start_ (n := 6) (S := fun w' => w'.cell? ⟨gb513, 0, none⟩ = some (.int .i64 a1_0) ∧ w'.cell? ⟨gb513, 1, none⟩ = some (.int .i64 a1_1)) (ds := []) #[false, false, false, false, false, false] (by kernel_rfl) rfl rfl ⟨(blk_cell BK513.out 0).trans rfl, (blk_cell BK513.out 1).trans rfl⟩ (fun hHeld => ?_)
  generalize w19.drew = w20 at HO518 HO521 BK513 BK514 BK533 HB hHeld ⊢
  refine pure_ (i := 0) (N := some 25) (v := ?_) (a' := ?_) #[true, false, false, false, false, false] rfl rfl (by kernel_rfl) (fun _ _ _ h => h) (Or.inl ⟨by rfl, ?_⟩) ?_ ?_
  rotate_left
  ·intro w'
   go_simp
   with_reducible rfl
  rotate_left
  ·simp only [Act.put, List.setIfInBounds_toArray, List.set_cons_zero, List.set_cons_succ, i64_w, i32_w]
   rfl
  refine pure_ (i := 2) (N := some 27) (v := ?_) (a' := ?_) #[true, false, true, false, false, false] rfl rfl (by kernel_rfl) (fun _ _ _ h => h) (Or.inl ⟨by rfl, ?_⟩) ?_ ?_
  rotate_left
  ·intro w'
   go_simp
   with_reducible rfl
  rotate_left
  ·simp only [Act.put, List.setIfInBounds_toArray, List.set_cons_zero, List.set_cons_succ, i64_w, i32_w]
   rfl
  refine take_ (i := 1) (N := some 26) (v := ?_) (a' := ?_) #[true, true, true, false, false, false] rfl rfl (by kernel_rfl) (fun _ _ _ h => h) (Or.inl ⟨by rfl, ?_⟩) hHeld ?_ ?_
  rotate_left
  ·rintro w' ⟨s0, s1⟩
   go_simp
   with_reducible rfl
  rotate_left
  ·simp only [Act.put, List.setIfInBounds_toArray, List.set_cons_zero, List.set_cons_succ, i64_w, i32_w]
   rfl
  refine pure_ (i := 4) (N := some 12) (v := ?_) (a' := ?_) #[true, true, true, false, true, false] rfl rfl (by kernel_rfl) (fun _ _ _ h => h) (Or.inl ⟨by rfl, ?_⟩) ?_ ?_
  rotate_left
  ·intro w'
   go_simp
   with_reducible rfl
  rotate_left
  ·simp only [Act.put, List.setIfInBounds_toArray, List.set_cons_zero, List.set_cons_succ, i64_w, i32_w]
   rfl
  refine take_ (i := 3) (N := some 28) (v := ?_) (a' := ?_) #[true, true, true, true, true, false] rfl rfl (by kernel_rfl) (fun _ _ _ h => h) (Or.inl ⟨by rfl, ?_⟩) hHeld ?_ ?_
  rotate_left
  ·rintro w' ⟨s0, s1⟩
   go_simp
   with_reducible rfl
  rotate_left
  ·simp only [Act.put, List.setIfInBounds_toArray, List.set_cons_zero, List.set_cons_succ, i64_w, i32_w]
   rfl
  refine pure_ (i := 5) (N := some 13) (v := ?_) (a' := ?_) #[true, true, true, true, true, true] rfl rfl (by kernel_rfl) (fun _ _ _ h => h) (Or.inl ⟨by rfl, ?_⟩) ?_ ?_
  rotate_left
  ·intro w'
   go_simp
   with_reducible rfl
  rotate_left
  ·simp only [Act.put, List.setIfInBounds_toArray, List.set_cons_zero, List.set_cons_succ, i64_w, i32_w]
   rfl
  refine done_ (by kernel_rfl) ?_
  try go_wp2
  have n0_ := Aside0.mk (Kd.R_drew HO518.out)
  have n1_ := Aside0.mk (Kd.R_drew HO521.out)
  have n2_ := Aside0.mk (blk_drew BK513.out)
  have n3_ := Aside0.mk (blk_drew BK514.out)
  have n4_ := Aside0.mk (blk_drew BK533.out)
  have n5_ := Aside0.mk (below_drew1 HB.out)
  clear HO518
  clear HO521
  clear BK513
  clear BK514
  clear BK533
  clear HB
  have HO518 := n0_
  have HO521 := n1_
  have BK513 := n2_
  have BK514 := n3_
  have BK533 := n4_
  have HB := n5_
  clear n0_ n1_ n2_ n3_ n4_ n5_
  refine start_ (n := 6) (S := fun w' => w'.cell? ⟨gb514, 0, none⟩ = some (.int .i64 a3_0) ∧ w'.cell? ⟨gb514, 1, none⟩ = some (.int .i64 a3_1)) (ds := []) #[false, false, false, false, false, false] (by kernel_rfl) rfl rfl ⟨(blk_cell BK514.out 0).trans rfl, (blk_cell BK514.out 1).trans rfl⟩ (fun hHeld => ?_)
  generalize w20.drew = w21 at HO518 HO521 BK513 BK514 BK533 HB hHeld ⊢
  refine pure_ (i := 0) (N := some 29) (v := ?_) (a' := ?_) #[true, false, false, false, false, false] rfl rfl (by kernel_rfl) (fun _ _ _ h => h) (Or.inl ⟨by rfl, ?_⟩) ?_ ?_
  rotate_left
  ·intro w'
   go_simp
   with_reducible rfl
  rotate_left
  ·simp only [Act.put, List.setIfInBounds_toArray, List.set_cons_zero, List.set_cons_succ, i64_w, i32_w]
   rfl
  refine pure_ (i := 2) (N := some 31) (v := ?_) (a' := ?_) #[true, false, true, false, false, false] rfl rfl (by kernel_rfl) (fun _ _ _ h => h) (Or.inl ⟨by rfl, ?_⟩) ?_ ?_
  rotate_left
  ·intro w'
   go_simp
   with_reducible rfl
  rotate_left
  ·simp only [Act.put, List.setIfInBounds_toArray, List.set_cons_zero, List.set_cons_succ, i64_w, i32_w]
   rfl
  refine take_ (i := 1) (N := some 30) (v := ?_) (a' := ?_) #[true, true, true, false, false, false] rfl rfl (by kernel_rfl) (fun _ _ _ h => h) (Or.inl ⟨by rfl, ?_⟩) hHeld ?_ ?_
  rotate_left
  ·rintro w' ⟨s0, s1⟩
   go_simp
   with_reducible rfl
  rotate_left
  ·simp only [Act.put, List.setIfInBounds_toArray, List.set_cons_zero, List.set_cons_succ, i64_w, i32_w]
   rfl
  refine pure_ (i := 4) (N := some 14) (v := ?_) (a' := ?_) #[true, true, true, false, true, false] rfl rfl (by kernel_rfl) (fun _ _ _ h => h) (Or.inl ⟨by rfl, ?_⟩) ?_ ?_
  rotate_left
  ·intro w'
   go_simp
   with_reducible rfl
  rotate_left
  ·simp only [Act.put, List.setIfInBounds_toArray, List.set_cons_zero, List.set_cons_succ, i64_w, i32_w]
   rfl
  refine take_ (i := 3) (N := some 32) (v := ?_) (a' := ?_) #[true, true, true, true, true, false] rfl rfl (by kernel_rfl) (fun _ _ _ h => h) (Or.inl ⟨by rfl, ?_⟩) hHeld ?_ ?_
  rotate_left
  ·rintro w' ⟨s0, s1⟩
   go_simp
   with_reducible rfl
  rotate_left
  ·simp only [Act.put, List.setIfInBounds_toArray, List.set_cons_zero, List.set_cons_succ, i64_w, i32_w]
   rfl
  refine pure_ (i := 5) (N := some 15) (v := ?_) (a' := ?_) #[true, true, true, true, true, true] rfl rfl (by kernel_rfl) (fun _ _ _ h => h) (Or.inl ⟨by rfl, ?_⟩) ?_ ?_
  rotate_left
  ·intro w'
   go_simp
   with_reducible rfl
  rotate_left
  ·simp only [Act.put, List.setIfInBounds_toArray, List.set_cons_zero, List.set_cons_succ, i64_w, i32_w]
   rfl
  refine done_ (by kernel_rfl) ?_
  go_upto_region 6 with (fail)
  go_cut [85] (fun v85 wc => ∃ (kq : Nat) (x85_8 : Bool), v85 = .bool x85_8 ∧ Aside0 (drumlinelaw8_ClockTick.j0 kq a2 a4 a1_0 a1_1 a3_0 a3_1 x85_8 t516 t519 t522 t523 t524 t525 t526 t527 t528 t529 t530 t531 t532 = some r) ∧ Aside0 (kq ≤ k) ∧ Aside0 (Kd.R k60 60 wc w.heap.size (fun _ => True) (.slice Ao14 t516.length co14) t516) ∧ Aside0 (Kd.R k37 37 wc w.heap.size (fun _ => True) (.slice Ao18 t519.length co18) t519) ∧ Aside0 (wc.heap[gb513]? = some (.cells #[.int .i64 a1_0, .int .i64 a1_1] 35 (0, 0))) ∧ Aside0 (wc.heap[gb514]? = some (.cells #[.int .i64 a3_0, .int .i64 a3_1] 47 (0, 0))) ∧ Aside0 (wc.heap[gb533]? = some (.cells #[(.slice Ao14 t516.length co14), (.slice Ao18 t519.length co18), .int .i64 t522, .int .i64 t523, .int .i64 t524, .int .i64 t525, .int .i64 t526, .int .i64 t527, .int .i64 t528, .int .i64 t529, .int .i64 t530, .int .i64 t531, .int .i64 t532] 25 (0, 0))) ∧ Aside0 (Below w.heap.size w wc))
  case first =>
   have H := HC9.out
   clear HC9
   by_cases c22 : a1_0 < (wrap64 (-t526))
   ·rw [if_pos c22] at H
    have c22b0 : decide (a1_0 < (wrap64 (-t526))) = true := decide_eq_true c22
    clear c22
    (first | rw [c22b0] | (simp only [i64_w, i32_w]; rw [c22b0]) | skip)
    have H' := Aside0.mk H
    clear H
    have hnb23 := NB533_513.out
    have hnc23 := NB513_533.out
    have hnb24 := NB533_514.out
    have hnc24 := NB514_533.out
    obtain ⟨hcz25_0, hcz25_1, hcz25_2, hcz25_3, hcz25_4, hcz25_5, hcz25_6, hcz25_7, hcz25_8, hcz25_9, hcz25_10, hcz25_11, hcz25_12⟩ := cellsK13 BK533.out
    obtain ⟨hfz25_0, hfz25_1, hfz25_2, hfz25_3, hfz25_4, hfz25_5, hfz25_6, hfz25_7, hfz25_8, hfz25_9, hfz25_10, hfz25_11, hfz25_12⟩ := frozK13 BK533.out
    go_wp2
    go_meet
    case rel => exact ⟨_, (true), (by first | rfl | (simp; done) | (simp [*]; done) | (have := TNA.out; unfold wrap64; congr 1; omega) | (unfold wrap64; omega)), H', ⟨by first | omega | exact Nat.le_refl _⟩, ⟨by (with_reducible repeat (first | apply Kd.R_alloc | apply Kd.R_drewN | apply Kd.R_drew)); exact HO518.out⟩, ⟨by (with_reducible repeat (first | apply Kd.R_alloc | apply Kd.R_drewN | apply Kd.R_drew)); exact HO521.out⟩, ⟨by (with_reducible repeat (first | refine blk_drewN ?_ _ | refine blk_drew ?_ | refine blk_alloc ?_ _)); exact BK513.out⟩, ⟨by (with_reducible repeat (first | refine blk_drewN ?_ _ | refine blk_drew ?_ | refine blk_alloc ?_ _)); exact BK514.out⟩, ⟨by (with_reducible repeat (first | refine blk_drewN ?_ _ | refine blk_drew ?_ | refine blk_alloc ?_ _)); exact BK533.out⟩, ⟨by repeat (first | (with_reducible first | exact HB.out | apply below_alloc | apply pw_below_drewN | apply below_drew1 | refine below_set ?_ GE513.out | refine below_set ?_ GE514.out | refine below_set ?_ GE533.out) | exact HB.out)⟩⟩
   ·rw [if_neg c22] at H
    have c22b0 : decide (a1_0 < (wrap64 (-t526))) = false := decide_eq_false c22
    clear c22
    (first | rw [c22b0] | (simp only [i64_w, i32_w]; rw [c22b0]) | skip)
    by_cases c26 : a1_0 > t526
    ·rw [if_pos c26] at H
     have c26b0 : decide (t526 < a1_0) = true := decide_eq_true c26
     clear c26
     have H' := Aside0.mk H
     clear H
     have hnb27 := NB533_513.out
     have hnc27 := NB513_533.out
     have hnb28 := NB533_514.out
     have hnc28 := NB514_533.out
     obtain ⟨hcz29_0, hcz29_1, hcz29_2, hcz29_3, hcz29_4, hcz29_5, hcz29_6, hcz29_7, hcz29_8, hcz29_9, hcz29_10, hcz29_11, hcz29_12⟩ := cellsK13 BK533.out
     obtain ⟨hfz29_0, hfz29_1, hfz29_2, hfz29_3, hfz29_4, hfz29_5, hfz29_6, hfz29_7, hfz29_8, hfz29_9, hfz29_10, hfz29_11, hfz29_12⟩ := frozK13 BK533.out
     go_wp2
     go_meet
     case rel => exact ⟨_, (true), (by first | rfl | (simp; done) | (simp [*]; done) | (have := TNA.out; unfold wrap64; congr 1; omega) | (unfold wrap64; omega)), H', ⟨by first | omega | exact Nat.le_refl _⟩, ⟨by (with_reducible repeat (first | apply Kd.R_alloc | apply Kd.R_drewN | apply Kd.R_drew)); exact HO518.out⟩, ⟨by (with_reducible repeat (first | apply Kd.R_alloc | apply Kd.R_drewN | apply Kd.R_drew)); exact HO521.out⟩, ⟨by (with_reducible repeat (first | refine blk_drewN ?_ _ | refine blk_drew ?_ | refine blk_alloc ?_ _)); exact BK513.out⟩, ⟨by (with_reducible repeat (first | refine blk_drewN ?_ _ | refine blk_drew ?_ | refine blk_alloc ?_ _)); exact BK514.out⟩, ⟨by (with_reducible repeat (first | refine blk_drewN ?_ _ | refine blk_drew ?_ | refine blk_alloc ?_ _)); exact BK533.out⟩, ⟨by repeat (first | (with_reducible first | exact HB.out | apply below_alloc | apply pw_below_drewN | apply below_drew1 | refine below_set ?_ GE513.out | refine below_set ?_ GE514.out | refine below_set ?_ GE533.out) | exact HB.out)⟩⟩
    ·rw [if_neg c26] at H
     have c26b0 : decide (t526 < a1_0) = false := decide_eq_false c26
     clear c26
     by_cases c30 : a1_1 < (wrap64 (-t526))
     ·rw [if_pos c30] at H
      have c30b0 : decide (a1_1 < (wrap64 (-t526))) = true := decide_eq_true c30
      clear c30
      have H' := Aside0.mk H
      clear H
      have hnb31 := NB533_513.out
      have hnc31 := NB513_533.out
      have hnb32 := NB533_514.out
      have hnc32 := NB514_533.out
      obtain ⟨hcz33_0, hcz33_1, hcz33_2, hcz33_3, hcz33_4, hcz33_5, hcz33_6, hcz33_7, hcz33_8, hcz33_9, hcz33_10, hcz33_11, hcz33_12⟩ := cellsK13 BK533.out
      obtain ⟨hfz33_0, hfz33_1, hfz33_2, hfz33_3, hfz33_4, hfz33_5, hfz33_6, hfz33_7, hfz33_8, hfz33_9, hfz33_10, hfz33_11, hfz33_12⟩ := frozK13 BK533.out
      go_wp2
      go_meet
      case rel => exact ⟨_, (true), (by first | rfl | (simp; done) | (simp [*]; done) | (have := TNA.out; unfold wrap64; congr 1; omega) | (unfold wrap64; omega)), H', ⟨by first | omega | exact Nat.le_refl _⟩, ⟨by (with_reducible repeat (first | apply Kd.R_alloc | apply Kd.R_drewN | apply Kd.R_drew)); exact HO518.out⟩, ⟨by (with_reducible repeat (first | apply Kd.R_alloc | apply Kd.R_drewN | apply Kd.R_drew)); exact HO521.out⟩, ⟨by (with_reducible repeat (first | refine blk_drewN ?_ _ | refine blk_drew ?_ | refine blk_alloc ?_ _)); exact BK513.out⟩, ⟨by (with_reducible repeat (first | refine blk_drewN ?_ _ | refine blk_drew ?_ | refine blk_alloc ?_ _)); exact BK514.out⟩, ⟨by (with_reducible repeat (first | refine blk_drewN ?_ _ | refine blk_drew ?_ | refine blk_alloc ?_ _)); exact BK533.out⟩, ⟨by repeat (first | (with_reducible first | exact HB.out | apply below_alloc | apply pw_below_drewN | apply below_drew1 | refine below_set ?_ GE513.out | refine below_set ?_ GE514.out | refine below_set ?_ GE533.out) | exact HB.out)⟩⟩
     ·rw [if_neg c30] at H
      have c30b0 : decide (a1_1 < (wrap64 (-t526))) = false := decide_eq_false c30
      clear c30
      by_cases c34 : a1_1 > t526
      ·rw [if_pos c34] at H
       have c34b0 : decide (t526 < a1_1) = true := decide_eq_true c34
       clear c34
       have H' := Aside0.mk H
       clear H
       have hnb35 := NB533_513.out
       have hnc35 := NB513_533.out
       have hnb36 := NB533_514.out
       have hnc36 := NB514_533.out
       obtain ⟨hcz37_0, hcz37_1, hcz37_2, hcz37_3, hcz37_4, hcz37_5, hcz37_6, hcz37_7, hcz37_8, hcz37_9, hcz37_10, hcz37_11, hcz37_12⟩ := cellsK13 BK533.out
       obtain ⟨hfz37_0, hfz37_1, hfz37_2, hfz37_3, hfz37_4, hfz37_5, hfz37_6, hfz37_7, hfz37_8, hfz37_9, hfz37_10, hfz37_11, hfz37_12⟩ := frozK13 BK533.out
       go_wp2
       go_meet
       case rel => exact ⟨_, (true), (by first | rfl | (simp; done) | (simp [*]; done) | (have := TNA.out; unfold wrap64; congr 1; omega) | (unfold wrap64; omega)), H', ⟨by first | omega | exact Nat.le_refl _⟩, ⟨by (with_reducible repeat (first | apply Kd.R_alloc | apply Kd.R_drewN | apply Kd.R_drew)); exact HO518.out⟩, ⟨by (with_reducible repeat (first | apply Kd.R_alloc | apply Kd.R_drewN | apply Kd.R_drew)); exact HO521.out⟩, ⟨by (with_reducible repeat (first | refine blk_drewN ?_ _ | refine blk_drew ?_ | refine blk_alloc ?_ _)); exact BK513.out⟩, ⟨by (with_reducible repeat (first | refine blk_drewN ?_ _ | refine blk_drew ?_ | refine blk_alloc ?_ _)); exact BK514.out⟩, ⟨by (with_reducible repeat (first | refine blk_drewN ?_ _ | refine blk_drew ?_ | refine blk_alloc ?_ _)); exact BK533.out⟩, ⟨by repeat (first | (with_reducible first | exact HB.out | apply below_alloc | apply pw_below_drewN | apply below_drew1 | refine below_set ?_ GE513.out | refine below_set ?_ GE514.out | refine below_set ?_ GE533.out) | exact HB.out)⟩⟩
      ·rw [if_neg c34] at H
       have c34b0 : decide (t526 < a1_1) = false := decide_eq_false c34
       clear c34
       by_cases c38 : a2 < (wrap64 (-t527))
       ·rw [if_pos c38] at H
        have c38b0 : decide (a2 < (wrap64 (-t527))) = true := decide_eq_true c38
        clear c38
        have H' := Aside0.mk H
        clear H
        have hnb39 := NB533_513.out
        have hnc39 := NB513_533.out
        have hnb40 := NB533_514.out
        have hnc40 := NB514_533.out
        obtain ⟨hcz41_0, hcz41_1, hcz41_2, hcz41_3, hcz41_4, hcz41_5, hcz41_6, hcz41_7, hcz41_8, hcz41_9, hcz41_10, hcz41_11, hcz41_12⟩ := cellsK13 BK533.out
        obtain ⟨hfz41_0, hfz41_1, hfz41_2, hfz41_3, hfz41_4, hfz41_5, hfz41_6, hfz41_7, hfz41_8, hfz41_9, hfz41_10, hfz41_11, hfz41_12⟩ := frozK13 BK533.out
        go_wp2
        go_meet
        case rel => exact ⟨_, (true), (by first | rfl | (simp; done) | (simp [*]; done) | (have := TNA.out; unfold wrap64; congr 1; omega) | (unfold wrap64; omega)), H', ⟨by first | omega | exact Nat.le_refl _⟩, ⟨by (with_reducible repeat (first | apply Kd.R_alloc | apply Kd.R_drewN | apply Kd.R_drew)); exact HO518.out⟩, ⟨by (with_reducible repeat (first | apply Kd.R_alloc | apply Kd.R_drewN | apply Kd.R_drew)); exact HO521.out⟩, ⟨by (with_reducible repeat (first | refine blk_drewN ?_ _ | refine blk_drew ?_ | refine blk_alloc ?_ _)); exact BK513.out⟩, ⟨by (with_reducible repeat (first | refine blk_drewN ?_ _ | refine blk_drew ?_ | refine blk_alloc ?_ _)); exact BK514.out⟩, ⟨by (with_reducible repeat (first | refine blk_drewN ?_ _ | refine blk_drew ?_ | refine blk_alloc ?_ _)); exact BK533.out⟩, ⟨by repeat (first | (with_reducible first | exact HB.out | apply below_alloc | apply pw_below_drewN | apply below_drew1 | refine below_set ?_ GE513.out | refine below_set ?_ GE514.out | refine below_set ?_ GE533.out) | exact HB.out)⟩⟩
       ·rw [if_neg c38] at H
        have c38b0 : decide (a2 < (wrap64 (-t527))) = false := decide_eq_false c38
        clear c38
        by_cases c42 : a2 > t527
        ·rw [if_pos c42] at H
         have c42b0 : decide (t527 < a2) = true := decide_eq_true c42
         clear c42
         have H' := Aside0.mk H
         clear H
         have hnb43 := NB533_513.out
         have hnc43 := NB513_533.out
         have hnb44 := NB533_514.out
         have hnc44 := NB514_533.out
         obtain ⟨hcz45_0, hcz45_1, hcz45_2, hcz45_3, hcz45_4, hcz45_5, hcz45_6, hcz45_7, hcz45_8, hcz45_9, hcz45_10, hcz45_11, hcz45_12⟩ := cellsK13 BK533.out
         obtain ⟨hfz45_0, hfz45_1, hfz45_2, hfz45_3, hfz45_4, hfz45_5, hfz45_6, hfz45_7, hfz45_8, hfz45_9, hfz45_10, hfz45_11, hfz45_12⟩ := frozK13 BK533.out
         go_wp2
         go_meet
         case rel => exact ⟨_, (true), (by first | rfl | (simp; done) | (simp [*]; done) | (have := TNA.out; unfold wrap64; congr 1; omega) | (unfold wrap64; omega)), H', ⟨by first | omega | exact Nat.le_refl _⟩, ⟨by (with_reducible repeat (first | apply Kd.R_alloc | apply Kd.R_drewN | apply Kd.R_drew)); exact HO518.out⟩, ⟨by (with_reducible repeat (first | apply Kd.R_alloc | apply Kd.R_drewN | apply Kd.R_drew)); exact HO521.out⟩, ⟨by (with_reducible repeat (first | refine blk_drewN ?_ _ | refine blk_drew ?_ | refine blk_alloc ?_ _)); exact BK513.out⟩, ⟨by (with_reducible repeat (first | refine blk_drewN ?_ _ | refine blk_drew ?_ | refine blk_alloc ?_ _)); exact BK514.out⟩, ⟨by (with_reducible repeat (first | refine blk_drewN ?_ _ | refine blk_drew ?_ | refine blk_alloc ?_ _)); exact BK533.out⟩, ⟨by repeat (first | (with_reducible first | exact HB.out | apply below_alloc | apply pw_below_drewN | apply below_drew1 | refine below_set ?_ GE513.out | refine below_set ?_ GE514.out | refine below_set ?_ GE533.out) | exact HB.out)⟩⟩
        ·rw [if_neg c42] at H
         have c42b0 : decide (t527 < a2) = false := decide_eq_false c42
         clear c42
         by_cases c46 : a3_0 < (-549755813888)
         ·rw [if_pos c46] at H
          have c46b0 : decide (a3_0 < (-549755813888)) = true := decide_eq_true c46
          clear c46
          have H' := Aside0.mk H
          clear H
          have hnb47 := NB533_513.out
          have hnc47 := NB513_533.out
          have hnb48 := NB533_514.out
          have hnc48 := NB514_533.out
          obtain ⟨hcz49_0, hcz49_1, hcz49_2, hcz49_3, hcz49_4, hcz49_5, hcz49_6, hcz49_7, hcz49_8, hcz49_9, hcz49_10, hcz49_11, hcz49_12⟩ := cellsK13 BK533.out
          obtain ⟨hfz49_0, hfz49_1, hfz49_2, hfz49_3, hfz49_4, hfz49_5, hfz49_6, hfz49_7, hfz49_8, hfz49_9, hfz49_10, hfz49_11, hfz49_12⟩ := frozK13 BK533.out
          go_wp2
          go_meet
          case rel => exact ⟨_, (true), (by first | rfl | (simp; done) | (simp [*]; done) | (have := TNA.out; unfold wrap64; congr 1; omega) | (unfold wrap64; omega)), H', ⟨by first | omega | exact Nat.le_refl _⟩, ⟨by (with_reducible repeat (first | apply Kd.R_alloc | apply Kd.R_drewN | apply Kd.R_drew)); exact HO518.out⟩, ⟨by (with_reducible repeat (first | apply Kd.R_alloc | apply Kd.R_drewN | apply Kd.R_drew)); exact HO521.out⟩, ⟨by (with_reducible repeat (first | refine blk_drewN ?_ _ | refine blk_drew ?_ | refine blk_alloc ?_ _)); exact BK513.out⟩, ⟨by (with_reducible repeat (first | refine blk_drewN ?_ _ | refine blk_drew ?_ | refine blk_alloc ?_ _)); exact BK514.out⟩, ⟨by (with_reducible repeat (first | refine blk_drewN ?_ _ | refine blk_drew ?_ | refine blk_alloc ?_ _)); exact BK533.out⟩, ⟨by repeat (first | (with_reducible first | exact HB.out | apply below_alloc | apply pw_below_drewN | apply below_drew1 | refine below_set ?_ GE513.out | refine below_set ?_ GE514.out | refine below_set ?_ GE533.out) | exact HB.out)⟩⟩
         ·rw [if_neg c46] at H
          have c46b0 : decide (a3_0 < (-549755813888)) = false := decide_eq_false c46
          clear c46
          by_cases c50 : a3_0 > 549755813888
          ·rw [if_pos c50] at H
           have c50b0 : decide (549755813888 < a3_0) = true := decide_eq_true c50
           clear c50
           have H' := Aside0.mk H
           clear H
           have hnb51 := NB533_513.out
           have hnc51 := NB513_533.out
           have hnb52 := NB533_514.out
           have hnc52 := NB514_533.out
           obtain ⟨hcz53_0, hcz53_1, hcz53_2, hcz53_3, hcz53_4, hcz53_5, hcz53_6, hcz53_7, hcz53_8, hcz53_9, hcz53_10, hcz53_11, hcz53_12⟩ := cellsK13 BK533.out
           obtain ⟨hfz53_0, hfz53_1, hfz53_2, hfz53_3, hfz53_4, hfz53_5, hfz53_6, hfz53_7, hfz53_8, hfz53_9, hfz53_10, hfz53_11, hfz53_12⟩ := frozK13 BK533.out
           go_wp2
           go_meet
           case rel => exact ⟨_, (true), (by first | rfl | (simp; done) | (simp [*]; done) | (have := TNA.out; unfold wrap64; congr 1; omega) | (unfold wrap64; omega)), H', ⟨by first | omega | exact Nat.le_refl _⟩, ⟨by (with_reducible repeat (first | apply Kd.R_alloc | apply Kd.R_drewN | apply Kd.R_drew)); exact HO518.out⟩, ⟨by (with_reducible repeat (first | apply Kd.R_alloc | apply Kd.R_drewN | apply Kd.R_drew)); exact HO521.out⟩, ⟨by (with_reducible repeat (first | refine blk_drewN ?_ _ | refine blk_drew ?_ | refine blk_alloc ?_ _)); exact BK513.out⟩, ⟨by (with_reducible repeat (first | refine blk_drewN ?_ _ | refine blk_drew ?_ | refine blk_alloc ?_ _)); exact BK514.out⟩, ⟨by (with_reducible repeat (first | refine blk_drewN ?_ _ | refine blk_drew ?_ | refine blk_alloc ?_ _)); exact BK533.out⟩, ⟨by repeat (first | (with_reducible first | exact HB.out | apply below_alloc | apply pw_below_drewN | apply below_drew1 | refine below_set ?_ GE513.out | refine below_set ?_ GE514.out | refine below_set ?_ GE533.out) | exact HB.out)⟩⟩
          ·rw [if_neg c50] at H
           have c50b0 : decide (549755813888 < a3_0) = false := decide_eq_false c50
           clear c50
           by_cases c54 : a3_1 < (-549755813888)
           ·rw [if_pos c54] at H
            have c54b0 : decide (a3_1 < (-549755813888)) = true := decide_eq_true c54
            clear c54
            have H' := Aside0.mk H
            clear H
            have hnb55 := NB533_513.out
            have hnc55 := NB513_533.out
            have hnb56 := NB533_514.out
            have hnc56 := NB514_533.out
            obtain ⟨hcz57_0, hcz57_1, hcz57_2, hcz57_3, hcz57_4, hcz57_5, hcz57_6, hcz57_7, hcz57_8, hcz57_9, hcz57_10, hcz57_11, hcz57_12⟩ := cellsK13 BK533.out
            obtain ⟨hfz57_0, hfz57_1, hfz57_2, hfz57_3, hfz57_4, hfz57_5, hfz57_6, hfz57_7, hfz57_8, hfz57_9, hfz57_10, hfz57_11, hfz57_12⟩ := frozK13 BK533.out
            go_wp2
            go_meet
            case rel => exact ⟨_, (true), (by first | rfl | (simp; done) | (simp [*]; done) | (have := TNA.out; unfold wrap64; congr 1; omega) | (unfold wrap64; omega)), H', ⟨by first | omega | exact Nat.le_refl _⟩, ⟨by (with_reducible repeat (first | apply Kd.R_alloc | apply Kd.R_drewN | apply Kd.R_drew)); exact HO518.out⟩, ⟨by (with_reducible repeat (first | apply Kd.R_alloc | apply Kd.R_drewN | apply Kd.R_drew)); exact HO521.out⟩, ⟨by (with_reducible repeat (first | refine blk_drewN ?_ _ | refine blk_drew ?_ | refine blk_alloc ?_ _)); exact BK513.out⟩, ⟨by (with_reducible repeat (first | refine blk_drewN ?_ _ | refine blk_drew ?_ | refine blk_alloc ?_ _)); exact BK514.out⟩, ⟨by (with_reducible repeat (first | refine blk_drewN ?_ _ | refine blk_drew ?_ | refine blk_alloc ?_ _)); exact BK533.out⟩, ⟨by repeat (first | (with_reducible first | exact HB.out | apply below_alloc | apply pw_below_drewN | apply below_drew1 | refine below_set ?_ GE513.out | refine below_set ?_ GE514.out | refine below_set ?_ GE533.out) | exact HB.out)⟩⟩
           ·rw [if_neg c54] at H
            have c54b0 : decide (a3_1 < (-549755813888)) = false := decide_eq_false c54
            clear c54
            have H' := Aside0.mk H
            clear H
            have hnb58 := NB533_513.out
            have hnc58 := NB513_533.out
            have hnb59 := NB533_514.out
            have hnc59 := NB514_533.out
            obtain ⟨hcz60_0, hcz60_1, hcz60_2, hcz60_3, hcz60_4, hcz60_5, hcz60_6, hcz60_7, hcz60_8, hcz60_9, hcz60_10, hcz60_11, hcz60_12⟩ := cellsK13 BK533.out
            obtain ⟨hfz60_0, hfz60_1, hfz60_2, hfz60_3, hfz60_4, hfz60_5, hfz60_6, hfz60_7, hfz60_8, hfz60_9, hfz60_10, hfz60_11, hfz60_12⟩ := frozK13 BK533.out
            go_wp2
            go_meet
            case rel => exact ⟨_, (decide (a3_1 > 549755813888)), (by first | rfl | (simp; done) | (simp [*]; done) | (have := TNA.out; unfold wrap64; congr 1; omega) | (unfold wrap64; omega)), H', ⟨by first | omega | exact Nat.le_refl _⟩, ⟨by (with_reducible repeat (first | apply Kd.R_alloc | apply Kd.R_drewN | apply Kd.R_drew)); exact HO518.out⟩, ⟨by (with_reducible repeat (first | apply Kd.R_alloc | apply Kd.R_drewN | apply Kd.R_drew)); exact HO521.out⟩, ⟨by (with_reducible repeat (first | refine blk_drewN ?_ _ | refine blk_drew ?_ | refine blk_alloc ?_ _)); exact BK513.out⟩, ⟨by (with_reducible repeat (first | refine blk_drewN ?_ _ | refine blk_drew ?_ | refine blk_alloc ?_ _)); exact BK514.out⟩, ⟨by (with_reducible repeat (first | refine blk_drewN ?_ _ | refine blk_drew ?_ | refine blk_alloc ?_ _)); exact BK533.out⟩, ⟨by repeat (first | (with_reducible first | exact HB.out | apply below_alloc | apply pw_below_drewN | apply below_drew1 | refine below_set ?_ GE513.out | refine below_set ?_ GE514.out | refine below_set ?_ GE533.out) | exact HB.out)⟩⟩
  case rest =>
   clear HC9
   try clear c1
   try clear c2
   try clear p2
   try clear c3
   try clear c4
   try clear c5
   try clear p6
   try clear c7
   try clear c9
   try clear c15
   try clear c16
   try clear c20
   try clear c21
   try clear c22
   try clear c22b0
   try clear c23
   try clear c24
   try clear c26
   try clear c26b0
   try clear c27
   try clear c28
   try clear c30
   try clear c30b0
   try clear c31
   try clear c32
   try clear c34
   try clear c34b0
   try clear c35
   try clear c36
   try clear c38
   try clear c38b0
   try clear c39
   try clear c40
   try clear c42
   try clear c42b0
   try clear c43
   try clear c44
   try clear c46
   try clear c46b0
   try clear c47
   try clear c48
   try clear c50
   try clear c50b0
   try clear c51
   try clear c52
   try clear c54
   try clear c54b0
   try clear c55
   try clear c56
   try clear c58
   try clear c59
   try clear hcz17_0
   try clear hcz17_1
   try clear hcz17_10
   try clear hcz17_11
   try clear hcz17_12
   try clear hcz17_2
   try clear hcz17_3
   try clear hcz17_4
   try clear hcz17_5
   try clear hcz17_6
   try clear hcz17_7
   try clear hcz17_8
   try clear hcz17_9
   try clear hcz25_0
   try clear hcz25_1
   try clear hcz25_10
   try clear hcz25_11
   try clear hcz25_12
   try clear hcz25_2
   try clear hcz25_3
   try clear hcz25_4
   try clear hcz25_5
   try clear hcz25_6
   try clear hcz25_7
   try clear hcz25_8
   try clear hcz25_9
   try clear hcz29_0
   try clear hcz29_1
   try clear hcz29_10
   try clear hcz29_11
   try clear hcz29_12
   try clear hcz29_2
   try clear hcz29_3
   try clear hcz29_4
   try clear hcz29_5
   try clear hcz29_6
   try clear hcz29_7
   try clear hcz29_8
   try clear hcz29_9
   try clear hcz33_0
   try clear hcz33_1
   try clear hcz33_10
   try clear hcz33_11
   try clear hcz33_12
   try clear hcz33_2
   try clear hcz33_3
   try clear hcz33_4
   try clear hcz33_5
   try clear hcz33_6
   try clear hcz33_7
   try clear hcz33_8
   try clear hcz33_9
   try clear hcz37_0
   try clear hcz37_1
   try clear hcz37_10
   try clear hcz37_11
   try clear hcz37_12
   try clear hcz37_2
   try clear hcz37_3
   try clear hcz37_4
   try clear hcz37_5
   try clear hcz37_6
   try clear hcz37_7
   try clear hcz37_8
   try clear hcz37_9
   try clear hcz41_0
   try clear hcz41_1
   try clear hcz41_10
   try clear hcz41_11
   try clear hcz41_12
   try clear hcz41_2
   try clear hcz41_3
   try clear hcz41_4
   try clear hcz41_5
   try clear hcz41_6
   try clear hcz41_7
   try clear hcz41_8
   try clear hcz41_9
   try clear hcz45_0
   try clear hcz45_1
   try clear hcz45_10
   try clear hcz45_11
   try clear hcz45_12
   try clear hcz45_2
   try clear hcz45_3
   try clear hcz45_4
   try clear hcz45_5
   try clear hcz45_6
   try clear hcz45_7
   try clear hcz45_8
   try clear hcz45_9
   try clear hcz49_0
   try clear hcz49_1
   try clear hcz49_10
   try clear hcz49_11
   try clear hcz49_12
   try clear hcz49_2
   try clear hcz49_3
   try clear hcz49_4
   try clear hcz49_5
   try clear hcz49_6
   try clear hcz49_7
   try clear hcz49_8
   try clear hcz49_9
   try clear hcz53_0
   try clear hcz53_1
   try clear hcz53_10
   try clear hcz53_11
   try clear hcz53_12
   try clear hcz53_2
   try clear hcz53_3
   try clear hcz53_4
   try clear hcz53_5
   try clear hcz53_6
   try clear hcz53_7
   try clear hcz53_8
   try clear hcz53_9
   try clear hcz57_0
   try clear hcz57_1
   try clear hcz57_10
   try clear hcz57_11
   try clear hcz57_12
   try clear hcz57_2
   try clear hcz57_3
   try clear hcz57_4
   try clear hcz57_5
   try clear hcz57_6
   try clear hcz57_7
   try clear hcz57_8
   try clear hcz57_9
   try clear hcz60_0
   try clear hcz60_1
   try clear hcz60_10
   try clear hcz60_11
   try clear hcz60_12
   try clear hcz60_2
   try clear hcz60_3
   try clear hcz60_4
   try clear hcz60_5
   try clear hcz60_6
   try clear hcz60_7
   try clear hcz60_8
   try clear hcz60_9
   try clear hfz17_0
   try clear hfz17_1
   try clear hfz17_10
   try clear hfz17_11
   try clear hfz17_12
   try clear hfz17_2
   try clear hfz17_3
   try clear hfz17_4
   try clear hfz17_5
   try clear hfz17_6
   try clear hfz17_7
   try clear hfz17_8
   try clear hfz17_9
   try clear hfz25_0
   try clear hfz25_1
   try clear hfz25_10
   try clear hfz25_11
   try clear hfz25_12
   try clear hfz25_2
   try clear hfz25_3
   try clear hfz25_4
   try clear hfz25_5
   try clear hfz25_6
   try clear hfz25_7
   try clear hfz25_8
   try clear hfz25_9
   try clear hfz29_0
   try clear hfz29_1
   try clear hfz29_10
   try clear hfz29_11
   try clear hfz29_12
   try clear hfz29_2
   try clear hfz29_3
   try clear hfz29_4
   try clear hfz29_5
   try clear hfz29_6
   try clear hfz29_7
   try clear hfz29_8
   try clear hfz29_9
   try clear hfz33_0
   try clear hfz33_1
   try clear hfz33_10
   try clear hfz33_11
   try clear hfz33_12
   try clear hfz33_2
   try clear hfz33_3
   try clear hfz33_4
   try clear hfz33_5
   try clear hfz33_6
   try clear hfz33_7
   try clear hfz33_8
   try clear hfz33_9
   try clear hfz37_0
   try clear hfz37_1
   try clear hfz37_10
   try clear hfz37_11
   try clear hfz37_12
   try clear hfz37_2
   try clear hfz37_3
   try clear hfz37_4
   try clear hfz37_5
   try clear hfz37_6
   try clear hfz37_7
   try clear hfz37_8
   try clear hfz37_9
   try clear hfz41_0
   try clear hfz41_1
   try clear hfz41_10
   try clear hfz41_11
   try clear hfz41_12
   try clear hfz41_2
   try clear hfz41_3
   try clear hfz41_4
   try clear hfz41_5
   try clear hfz41_6
   try clear hfz41_7
   try clear hfz41_8
   try clear hfz41_9
   try clear hfz45_0
   try clear hfz45_1
   try clear hfz45_10
   try clear hfz45_11
   try clear hfz45_12
   try clear hfz45_2
   try clear hfz45_3
   try clear hfz45_4
   try clear hfz45_5
   try clear hfz45_6
   try clear hfz45_7
   try clear hfz45_8
   try clear hfz45_9
   try clear hfz49_0
   try clear hfz49_1
   try clear hfz49_10
   try clear hfz49_11
   try clear hfz49_12
   try clear hfz49_2
   try clear hfz49_3
   try clear hfz49_4
   try clear hfz49_5
   try clear hfz49_6
   try clear hfz49_7
   try clear hfz49_8
   try clear hfz49_9
   try clear hfz53_0
   try clear hfz53_1
   try clear hfz53_10
   try clear hfz53_11
   try clear hfz53_12
   try clear hfz53_2
   try clear hfz53_3
   try clear hfz53_4
   try clear hfz53_5
   try clear hfz53_6
   try clear hfz53_7
   try clear hfz53_8
   try clear hfz53_9
   try clear hfz57_0
   try clear hfz57_1
   try clear hfz57_10
   try clear hfz57_11
   try clear hfz57_12
   try clear hfz57_2
   try clear hfz57_3
   try clear hfz57_4
   try clear hfz57_5
   try clear hfz57_6
   try clear hfz57_7
   try clear hfz57_8
   try clear hfz57_9
   try clear hfz60_0
   try clear hfz60_1
   try clear hfz60_10
   try clear hfz60_11
   try clear hfz60_12
   try clear hfz60_2
   try clear hfz60_3
   try clear hfz60_4
   try clear hfz60_5
   try clear hfz60_6
   try clear hfz60_7
   try clear hfz60_8
   try clear hfz60_9
   obtain ⟨kq, x85_8, rfl, HA, HJ8, HO_534000, HO_534001, BK513, BK514, BK533, HB⟩ := hcut
   cases kq with
   | zero => exact absurd HA.out (by simp [drumlinelaw8_ClockTick.j0])
   | succ kj8 =>
    have H := HA.out
    clear HA
    simp only [drumlinelaw8_ClockTick.j0] at H
    by_cases c61 : x85_8 = true
    ·subst c61
     have H1 : (some true) = some r := by rw [if_pos rfl] at H; exact H
     clear H
     have H := H1
     clear H1
     obtain rfl := Option.some.inj H
     go_wp2
     go_ret
     exact ⟨by first | rfl | (simp [errW_none, errW_some] <;> rfl) | (simp [*, errW_none, errW_some] <;> rfl), by repeat (first | (with_reducible first | exact HB.out | apply below_alloc | apply pw_below_drewN | apply below_drew1 | refine below_set ?_ GE513.out | refine below_set ?_ GE514.out | refine below_set ?_ GE533.out) | exact HB.out)⟩
    ·replace c61 := Bool.eq_false_iff.mpr c61
     subst c61
     have H1 : ((bounds_Near.f kj8 t516 t519 t522 t523 t524 t525 t526 t527 t528 t529 t530 t531 t532).bind fun t534 => (if (wrap64 (a3_0 - a3_1)) > t534 then (drumlinelaw8_ClockTick.j1 kj8 a2 a4 a1_0 a1_1 a3_0 a3_1 true t516 t519 t522 t523 t524 t525 t526 t527 t528 t529 t530 t531 t532) else ((bounds_Near.f kj8 t516 t519 t522 t523 t524 t525 t526 t527 t528 t529 t530 t531 t532).bind fun t535 => (drumlinelaw8_ClockTick.j1 kj8 a2 a4 a1_0 a1_1 a3_0 a3_1 (decide ((wrap64 (a3_1 - a3_0)) > t535)) t516 t519 t522 t523 t524 t525 t526 t527 t528 t529 t530 t531 t532)))) = some r := by rw [if_neg (show ¬ (false = true) by decide)] at H; exact H
     clear H
     have H := H1
     clear H1
     have HC62 := Aside0.mk H
     clear H
     go_upto_region 8 with (fail)
     go_cut [99] (fun v99 wc => ∃ (kq : Nat) (x99_61 : Bool), v99 = .bool x99_61 ∧ Aside0 (drumlinelaw8_ClockTick.j1 kq a2 a4 a1_0 a1_1 a3_0 a3_1 x99_61 t516 t519 t522 t523 t524 t525 t526 t527 t528 t529 t530 t531 t532 = some r) ∧ Aside0 (kq ≤ kj8) ∧ Aside0 (Kd.R k60 60 wc w.heap.size (fun _ => True) (.slice Ao14 t516.length co14) t516) ∧ Aside0 (Kd.R k37 37 wc w.heap.size (fun _ => True) (.slice Ao18 t519.length co18) t519) ∧ Aside0 (wc.heap[gb513]? = some (.cells #[.int .i64 a1_0, .int .i64 a1_1] 35 (0, 0))) ∧ Aside0 (wc.heap[gb514]? = some (.cells #[.int .i64 a3_0, .int .i64 a3_1] 47 (0, 0))) ∧ Aside0 (wc.heap[gb533]? = some (.cells #[(.slice Ao14 t516.length co14), (.slice Ao18 t519.length co18), .int .i64 t522, .int .i64 t523, .int .i64 t524, .int .i64 t525, .int .i64 t526, .int .i64 t527, .int .i64 t528, .int .i64 t529, .int .i64 t530, .int .i64 t531, .int .i64 t532] 25 (0, 0))) ∧ Aside0 (Below w.heap.size w wc))
     case first =>
      have H := HC62.out
      clear HC62
      replace H := Option.bind_eq_some_iff.mp H
      obtain ⟨t534, A630, H⟩ := H
      replace H : (if (wrap64 (a3_0 - a3_1)) > t534 then (drumlinelaw8_ClockTick.j1 kj8 a2 a4 a1_0 a1_1 a3_0 a3_1 true t516 t519 t522 t523 t524 t525 t526 t527 t528 t529 t530 t531 t532) else ((bounds_Near.f kj8 t516 t519 t522 t523 t524 t525 t526 t527 t528 t529 t530 t531 t532).bind fun t535 => (drumlinelaw8_ClockTick.j1 kj8 a2 a4 a1_0 a1_1 a3_0 a3_1 (decide ((wrap64 (a3_1 - a3_0)) > t535)) t516 t519 t522 t523 t524 t525 t526 t527 t528 t529 t530 t531 t532))) = some r := H
      have A63 := Aside0.mk A630
      clear A630
      by_cases c64 : (wrap64 (a3_0 - a3_1)) > t534
      ·rw [if_pos c64] at H
       have c64b0 : decide (t534 < (wrap64 (a3_0 - a3_1))) = true := decide_eq_true c64
       clear c64
       (first | rw [c64b0] | (simp only [i64_w, i32_w]; rw [c64b0]) | skip)
       have H' := Aside0.mk H
       clear H
       have hnb65 := NB533_513.out
       have hnc65 := NB513_533.out
       have hnb66 := NB533_514.out
       have hnc66 := NB514_533.out
       obtain ⟨hcz67_0, hcz67_1, hcz67_2, hcz67_3, hcz67_4, hcz67_5, hcz67_6, hcz67_7, hcz67_8, hcz67_9, hcz67_10, hcz67_11, hcz67_12⟩ := cellsK13 BK533.out
       obtain ⟨hfz67_0, hfz67_1, hfz67_2, hfz67_3, hfz67_4, hfz67_5, hfz67_6, hfz67_7, hfz67_8, hfz67_9, hfz67_10, hfz67_11, hfz67_12⟩ := frozK13 BK533.out
       go_wp2_with (first | ((with_reducible refine gate_callee (f := 25) rfl ?_); refine goesL_ (some 90) rfl rfl Tryd.func25 (by kernel_rfl) rfl #[.agg #[.slice Ao14 t516.length co14, .slice Ao18 t519.length co18, .int .i64 t522, .int .i64 t523, .int .i64 t524, .int .i64 t525, .int .i64 t526, .int .i64 t527, .int .i64 t528, .int .i64 t529, .int .i64 t530, .int .i64 t531, .int .i64 t532]] rfl (by (try simp only [List.map_toArray, List.map_cons, List.map_nil]); first | done | rfl | (simp only [List.length_drop, List.length_take]; rfl)) ?_; (with_reducible refine (bounds_Near.calls kj8 _ _ t516 _ _ t519 t522 t523 t524 t525 t526 t527 t528 t529 t530 t531 t532 t534 _ ?side1 ?side2 ?side3 ?side4 A63.out).mono ?_); (case side1 => repeat (first | exact (Kd.R_reads' HO_534000.out).2.2 | (with_reducible refine Kd.C_alloc ?_ _) | (with_reducible refine Kd.C_drewN ?_ _) | (with_reducible refine Kd.C_drew ?_))); (case side2 => exact (Kd.R_reads' HO_534000.out).2.1); (case side3 => repeat (first | exact (Kd.R_reads' HO_534001.out).2.2 | (with_reducible refine Kd.C_alloc ?_ _) | (with_reducible refine Kd.C_drewN ?_ _) | (with_reducible refine Kd.C_drew ?_))); (case side4 => exact (Kd.R_reads' HO_534001.out).2.1); rintro e w68 ⟨rfl, hb⟩; refine ⟨_, rfl, ?_⟩; have n0_ := Aside0.mk (Kd.R_below (by (with_reducible repeat (first | apply Kd.R_alloc | apply Kd.R_drewN | apply Kd.R_drew)); exact HO_534000.out) hb); have n1_ := Aside0.mk (Kd.R_below (by (with_reducible repeat (first | apply Kd.R_alloc | apply Kd.R_drewN | apply Kd.R_drew)); exact HO_534001.out) hb); have n2_ := Aside0.mk (blk_below (g := gb513) (o := .cells #[.int .i64 a1_0, .int .i64 a1_1] 35 (0, 0)) (by (with_reducible repeat (first | refine blk_drewN ?_ _ | refine blk_drew ?_ | refine blk_alloc ?_ _)); exact BK513.out) hb); have n3_ := Aside0.mk (blk_below (g := gb514) (o := .cells #[.int .i64 a3_0, .int .i64 a3_1] 47 (0, 0)) (by (with_reducible repeat (first | refine blk_drewN ?_ _ | refine blk_drew ?_ | refine blk_alloc ?_ _)); exact BK514.out) hb); have n4_ := Aside0.mk (blk_below (g := gb533) (o := .cells #[.slice Ao14 t516.length co14, .slice Ao18 t519.length co18, .int .i64 t522, .int .i64 t523, .int .i64 t524, .int .i64 t525, .int .i64 t526, .int .i64 t527, .int .i64 t528, .int .i64 t529, .int .i64 t530, .int .i64 t531, .int .i64 t532] 25 (0, 0)) (by (with_reducible repeat (first | refine blk_drewN ?_ _ | refine blk_drew ?_ | refine blk_alloc ?_ _)); exact BK533.out) hb); have n5_ := Aside0.mk (below_step (by repeat (first | (with_reducible first | exact HB.out | apply below_alloc | apply pw_below_drewN | apply below_drew1 | refine below_set ?_ GE513.out | refine below_set ?_ GE514.out | refine below_set ?_ GE533.out) | exact HB.out)) hb); clear HO_534000; clear HO_534001; clear BK513; clear BK514; clear BK533; clear HB; have HO_534000 := n0_; have HO_534001 := n1_; have BK513 := n2_; have BK514 := n3_; have BK533 := n4_; have HB := n5_; clear n0_ n1_ n2_ n3_ n4_ n5_; (try clear hb); (try clear hb2); (try clear hk); (try clear hi)))
       go_meet
       case rel => exact ⟨_, (true), (by first | rfl | (simp; done) | (simp [*]; done) | (have := TNA.out; unfold wrap64; congr 1; omega) | (unfold wrap64; omega)), H', ⟨by have := HJ8.out; first | omega | exact Nat.le_refl _⟩, ⟨by (with_reducible repeat (first | apply Kd.R_alloc | apply Kd.R_drewN | apply Kd.R_drew)); exact HO_534000.out⟩, ⟨by (with_reducible repeat (first | apply Kd.R_alloc | apply Kd.R_drewN | apply Kd.R_drew)); exact HO_534001.out⟩, ⟨by (with_reducible repeat (first | refine blk_drewN ?_ _ | refine blk_drew ?_ | refine blk_alloc ?_ _)); exact BK513.out⟩, ⟨by (with_reducible repeat (first | refine blk_drewN ?_ _ | refine blk_drew ?_ | refine blk_alloc ?_ _)); exact BK514.out⟩, ⟨by (with_reducible repeat (first | refine blk_drewN ?_ _ | refine blk_drew ?_ | refine blk_alloc ?_ _)); exact BK533.out⟩, ⟨by repeat (first | (with_reducible first | exact HB.out | apply below_alloc | apply pw_below_drewN | apply below_drew1 | refine below_set ?_ GE513.out | refine below_set ?_ GE514.out | refine below_set ?_ GE533.out) | exact HB.out)⟩⟩
      ·rw [if_neg c64] at H
       have c64b0 : decide (t534 < (wrap64 (a3_0 - a3_1))) = false := decide_eq_false c64
       clear c64
       (first | rw [c64b0] | (simp only [i64_w, i32_w]; rw [c64b0]) | skip)
       replace H := Option.bind_eq_some_iff.mp H
       obtain ⟨t535, A690, H⟩ := H
       replace H : (drumlinelaw8_ClockTick.j1 kj8 a2 a4 a1_0 a1_1 a3_0 a3_1 (decide ((wrap64 (a3_1 - a3_0)) > t535)) t516 t519 t522 t523 t524 t525 t526 t527 t528 t529 t530 t531 t532) = some r := H
       have A69 := Aside0.mk A690
       clear A690
       have H' := Aside0.mk H
       clear H
       have hnb70 := NB533_513.out
       have hnc70 := NB513_533.out
       have hnb71 := NB533_514.out
       have hnc71 := NB514_533.out
       obtain ⟨hcz72_0, hcz72_1, hcz72_2, hcz72_3, hcz72_4, hcz72_5, hcz72_6, hcz72_7, hcz72_8, hcz72_9, hcz72_10, hcz72_11, hcz72_12⟩ := cellsK13 BK533.out
       obtain ⟨hfz72_0, hfz72_1, hfz72_2, hfz72_3, hfz72_4, hfz72_5, hfz72_6, hfz72_7, hfz72_8, hfz72_9, hfz72_10, hfz72_11, hfz72_12⟩ := frozK13 BK533.out
       go_wp2_with (first | ((with_reducible refine gate_callee (f := 25) rfl ?_); refine goesL_ (some 90) rfl rfl Tryd.func25 (by kernel_rfl) rfl #[.agg #[.slice Ao14 t516.length co14, .slice Ao18 t519.length co18, .int .i64 t522, .int .i64 t523, .int .i64 t524, .int .i64 t525, .int .i64 t526, .int .i64 t527, .int .i64 t528, .int .i64 t529, .int .i64 t530, .int .i64 t531, .int .i64 t532]] rfl (by (try simp only [List.map_toArray, List.map_cons, List.map_nil]); first | done | rfl | (simp only [List.length_drop, List.length_take]; rfl)) ?_; (with_reducible refine (bounds_Near.calls kj8 _ _ t516 _ _ t519 t522 t523 t524 t525 t526 t527 t528 t529 t530 t531 t532 t534 _ ?side1 ?side2 ?side3 ?side4 A63.out).mono ?_); (case side1 => repeat (first | exact (Kd.R_reads' HO_534000.out).2.2 | (with_reducible refine Kd.C_alloc ?_ _) | (with_reducible refine Kd.C_drewN ?_ _) | (with_reducible refine Kd.C_drew ?_))); (case side2 => exact (Kd.R_reads' HO_534000.out).2.1); (case side3 => repeat (first | exact (Kd.R_reads' HO_534001.out).2.2 | (with_reducible refine Kd.C_alloc ?_ _) | (with_reducible refine Kd.C_drewN ?_ _) | (with_reducible refine Kd.C_drew ?_))); (case side4 => exact (Kd.R_reads' HO_534001.out).2.1); rintro e w73 ⟨rfl, hb⟩; refine ⟨_, rfl, ?_⟩; have n0_ := Aside0.mk (Kd.R_below (by (with_reducible repeat (first | apply Kd.R_alloc | apply Kd.R_drewN | apply Kd.R_drew)); exact HO_534000.out) hb); have n1_ := Aside0.mk (Kd.R_below (by (with_reducible repeat (first | apply Kd.R_alloc | apply Kd.R_drewN | apply Kd.R_drew)); exact HO_534001.out) hb); have n2_ := Aside0.mk (blk_below (g := gb513) (o := .cells #[.int .i64 a1_0, .int .i64 a1_1] 35 (0, 0)) (by (with_reducible repeat (first | refine blk_drewN ?_ _ | refine blk_drew ?_ | refine blk_alloc ?_ _)); exact BK513.out) hb); have n3_ := Aside0.mk (blk_below (g := gb514) (o := .cells #[.int .i64 a3_0, .int .i64 a3_1] 47 (0, 0)) (by (with_reducible repeat (first | refine blk_drewN ?_ _ | refine blk_drew ?_ | refine blk_alloc ?_ _)); exact BK514.out) hb); have n4_ := Aside0.mk (blk_below (g := gb533) (o := .cells #[.slice Ao14 t516.length co14, .slice Ao18 t519.length co18, .int .i64 t522, .int .i64 t523, .int .i64 t524, .int .i64 t525, .int .i64 t526, .int .i64 t527, .int .i64 t528, .int .i64 t529, .int .i64 t530, .int .i64 t531, .int .i64 t532] 25 (0, 0)) (by (with_reducible repeat (first | refine blk_drewN ?_ _ | refine blk_drew ?_ | refine blk_alloc ?_ _)); exact BK533.out) hb); have n5_ := Aside0.mk (below_step (by repeat (first | (with_reducible first | exact HB.out | apply below_alloc | apply pw_below_drewN | apply below_drew1 | refine below_set ?_ GE513.out | refine below_set ?_ GE514.out | refine below_set ?_ GE533.out) | exact HB.out)) hb); clear HO_534000; clear HO_534001; clear BK513; clear BK514; clear BK533; clear HB; have HO_534000 := n0_; have HO_534001 := n1_; have BK513 := n2_; have BK514 := n3_; have BK533 := n4_; have HB := n5_; clear n0_ n1_ n2_ n3_ n4_ n5_; (try clear hb); (try clear hb2); (try clear hk); (try clear hi); obtain ⟨hcz74_0, hcz74_1, hcz74_2, hcz74_3, hcz74_4, hcz74_5, hcz74_6, hcz74_7, hcz74_8, hcz74_9, hcz74_10, hcz74_11, hcz74_12⟩ := cellsK13 BK533.out; obtain ⟨hfz74_0, hfz74_1, hfz74_2, hfz74_3, hfz74_4, hfz74_5, hfz74_6, hfz74_7, hfz74_8, hfz74_9, hfz74_10, hfz74_11, hfz74_12⟩ := frozK13 BK533.out) | (go_at_call 25; (with_reducible refine (bounds_Near.calls kj8 _ _ t516 _ _ t519 t522 t523 t524 t525 t526 t527 t528 t529 t530 t531 t532 t535 _ ?side1 ?side2 ?side3 ?side4 A69.out).mono ?_); (case side1 => repeat (first | exact (Kd.R_reads' HO_534000.out).2.2 | (with_reducible refine Kd.C_alloc ?_ _) | (with_reducible refine Kd.C_drewN ?_ _) | (with_reducible refine Kd.C_drew ?_))); (case side2 => exact (Kd.R_reads' HO_534000.out).2.1); (case side3 => repeat (first | exact (Kd.R_reads' HO_534001.out).2.2 | (with_reducible refine Kd.C_alloc ?_ _) | (with_reducible refine Kd.C_drewN ?_ _) | (with_reducible refine Kd.C_drew ?_))); (case side4 => exact (Kd.R_reads' HO_534001.out).2.1); rintro e w75 ⟨rfl, hb⟩; have n0_ := Aside0.mk (Kd.R_below (by (with_reducible repeat (first | apply Kd.R_alloc | apply Kd.R_drewN | apply Kd.R_drew)); exact HO_534000.out) hb); have n1_ := Aside0.mk (Kd.R_below (by (with_reducible repeat (first | apply Kd.R_alloc | apply Kd.R_drewN | apply Kd.R_drew)); exact HO_534001.out) hb); have n2_ := Aside0.mk (blk_below (g := gb513) (o := .cells #[.int .i64 a1_0, .int .i64 a1_1] 35 (0, 0)) (by (with_reducible repeat (first | refine blk_drewN ?_ _ | refine blk_drew ?_ | refine blk_alloc ?_ _)); exact BK513.out) hb); have n3_ := Aside0.mk (blk_below (g := gb514) (o := .cells #[.int .i64 a3_0, .int .i64 a3_1] 47 (0, 0)) (by (with_reducible repeat (first | refine blk_drewN ?_ _ | refine blk_drew ?_ | refine blk_alloc ?_ _)); exact BK514.out) hb); have n4_ := Aside0.mk (blk_below (g := gb533) (o := .cells #[.slice Ao14 t516.length co14, .slice Ao18 t519.length co18, .int .i64 t522, .int .i64 t523, .int .i64 t524, .int .i64 t525, .int .i64 t526, .int .i64 t527, .int .i64 t528, .int .i64 t529, .int .i64 t530, .int .i64 t531, .int .i64 t532] 25 (0, 0)) (by (with_reducible repeat (first | refine blk_drewN ?_ _ | refine blk_drew ?_ | refine blk_alloc ?_ _)); exact BK533.out) hb); have n5_ := Aside0.mk (below_step (by repeat (first | (with_reducible first | exact HB.out | apply below_alloc | apply pw_below_drewN | apply below_drew1 | refine below_set ?_ GE513.out | refine below_set ?_ GE514.out | refine below_set ?_ GE533.out) | exact HB.out)) hb); clear HO_534000; clear HO_534001; clear BK513; clear BK514; clear BK533; clear HB; have HO_534000 := n0_; have HO_534001 := n1_; have BK513 := n2_; have BK514 := n3_; have BK533 := n4_; have HB := n5_; clear n0_ n1_ n2_ n3_ n4_ n5_; (try clear hb); (try clear hb2); (try clear hk); (try clear hi)))
       go_meet
       case rel => exact ⟨_, (decide ((wrap64 (a3_1 - a3_0)) > t535)), (by first | rfl | (simp; done) | (simp [*]; done) | (have := TNA.out; unfold wrap64; congr 1; omega) | (unfold wrap64; omega)), H', ⟨by have := HJ8.out; first | omega | exact Nat.le_refl _⟩, ⟨by (with_reducible repeat (first | apply Kd.R_alloc | apply Kd.R_drewN | apply Kd.R_drew)); exact HO_534000.out⟩, ⟨by (with_reducible repeat (first | apply Kd.R_alloc | apply Kd.R_drewN | apply Kd.R_drew)); exact HO_534001.out⟩, ⟨by (with_reducible repeat (first | refine blk_drewN ?_ _ | refine blk_drew ?_ | refine blk_alloc ?_ _)); exact BK513.out⟩, ⟨by (with_reducible repeat (first | refine blk_drewN ?_ _ | refine blk_drew ?_ | refine blk_alloc ?_ _)); exact BK514.out⟩, ⟨by (with_reducible repeat (first | refine blk_drewN ?_ _ | refine blk_drew ?_ | refine blk_alloc ?_ _)); exact BK533.out⟩, ⟨by repeat (first | (with_reducible first | exact HB.out | apply below_alloc | apply pw_below_drewN | apply below_drew1 | refine below_set ?_ GE513.out | refine below_set ?_ GE514.out | refine below_set ?_ GE533.out) | exact HB.out)⟩⟩
     case rest =>
      clear HC62
      try clear c1
      try clear c2
      try clear p2
      try clear c3
      try clear c4
      try clear c5
      try clear c6
      try clear p6
      try clear c7
      try clear c9
      try clear c15
      try clear c16
      try clear c20
      try clear c21
      try clear c22
      try clear c22b0
      try clear c23
      try clear c24
      try clear c25
      try clear c26
      try clear c26b0
      try clear c27
      try clear c28
      try clear c30
      try clear c30b0
      try clear c31
      try clear c32
      try clear c34
      try clear c34b0
      try clear c35
      try clear c36
      try clear c38
      try clear c38b0
      try clear c39
      try clear c40
      try clear c42
      try clear c42b0
      try clear c43
      try clear c44
      try clear c46
      try clear c46b0
      try clear c47
      try clear c48
      try clear c50
      try clear c50b0
      try clear c51
      try clear c52
      try clear c54
      try clear c54b0
      try clear c55
      try clear c56
      try clear c58
      try clear c59
      try clear c61
      try clear c64
      try clear c64b0
      try clear p64
      try clear c65
      try clear c66
      try clear c70
      try clear c71
      try clear hcz17_0
      try clear hcz17_1
      try clear hcz17_10
      try clear hcz17_11
      try clear hcz17_12
      try clear hcz17_2
      try clear hcz17_3
      try clear hcz17_4
      try clear hcz17_5
      try clear hcz17_6
      try clear hcz17_7
      try clear hcz17_8
      try clear hcz17_9
      try clear hcz25_0
      try clear hcz25_1
      try clear hcz25_10
      try clear hcz25_11
      try clear hcz25_12
      try clear hcz25_2
      try clear hcz25_3
      try clear hcz25_4
      try clear hcz25_5
      try clear hcz25_6
      try clear hcz25_7
      try clear hcz25_8
      try clear hcz25_9
      try clear hcz29_0
      try clear hcz29_1
      try clear hcz29_10
      try clear hcz29_11
      try clear hcz29_12
      try clear hcz29_2
      try clear hcz29_3
      try clear hcz29_4
      try clear hcz29_5
      try clear hcz29_6
      try clear hcz29_7
      try clear hcz29_8
      try clear hcz29_9
      try clear hcz33_0
      try clear hcz33_1
      try clear hcz33_10
      try clear hcz33_11
      try clear hcz33_12
      try clear hcz33_2
      try clear hcz33_3
      try clear hcz33_4
      try clear hcz33_5
      try clear hcz33_6
      try clear hcz33_7
      try clear hcz33_8
      try clear hcz33_9
      try clear hcz37_0
      try clear hcz37_1
      try clear hcz37_10
      try clear hcz37_11
      try clear hcz37_12
      try clear hcz37_2
      try clear hcz37_3
      try clear hcz37_4
      try clear hcz37_5
      try clear hcz37_6
      try clear hcz37_7
      try clear hcz37_8
      try clear hcz37_9
      try clear hcz41_0
      try clear hcz41_1
      try clear hcz41_10
      try clear hcz41_11
      try clear hcz41_12
      try clear hcz41_2
      try clear hcz41_3
      try clear hcz41_4
      try clear hcz41_5
      try clear hcz41_6
      try clear hcz41_7
      try clear hcz41_8
      try clear hcz41_9
      try clear hcz45_0
      try clear hcz45_1
      try clear hcz45_10
      try clear hcz45_11
      try clear hcz45_12
      try clear hcz45_2
      try clear hcz45_3
      try clear hcz45_4
      try clear hcz45_5
      try clear hcz45_6
      try clear hcz45_7
      try clear hcz45_8
      try clear hcz45_9
      try clear hcz49_0
      try clear hcz49_1
      try clear hcz49_10
      try clear hcz49_11
      try clear hcz49_12
      try clear hcz49_2
      try clear hcz49_3
      try clear hcz49_4
      try clear hcz49_5
      try clear hcz49_6
      try clear hcz49_7
      try clear hcz49_8
      try clear hcz49_9
      try clear hcz53_0
      try clear hcz53_1
      try clear hcz53_10
      try clear hcz53_11
      try clear hcz53_12
      try clear hcz53_2
      try clear hcz53_3
      try clear hcz53_4
      try clear hcz53_5
      try clear hcz53_6
      try clear hcz53_7
      try clear hcz53_8
      try clear hcz53_9
      try clear hcz57_0
      try clear hcz57_1
      try clear hcz57_10
      try clear hcz57_11
      try clear hcz57_12
      try clear hcz57_2
      try clear hcz57_3
      try clear hcz57_4
      try clear hcz57_5
      try clear hcz57_6
      try clear hcz57_7
      try clear hcz57_8
      try clear hcz57_9
      try clear hcz60_0
      try clear hcz60_1
      try clear hcz60_10
      try clear hcz60_11
      try clear hcz60_12
      try clear hcz60_2
      try clear hcz60_3
      try clear hcz60_4
      try clear hcz60_5
      try clear hcz60_6
      try clear hcz60_7
      try clear hcz60_8
      try clear hcz60_9
      try clear hcz67_0
      try clear hcz67_1
      try clear hcz67_10
      try clear hcz67_11
      try clear hcz67_12
      try clear hcz67_2
      try clear hcz67_3
      try clear hcz67_4
      try clear hcz67_5
      try clear hcz67_6
      try clear hcz67_7
      try clear hcz67_8
      try clear hcz67_9
      try clear hcz72_0
      try clear hcz72_1
      try clear hcz72_10
      try clear hcz72_11
      try clear hcz72_12
      try clear hcz72_2
      try clear hcz72_3
      try clear hcz72_4
      try clear hcz72_5
      try clear hcz72_6
      try clear hcz72_7
      try clear hcz72_8
      try clear hcz72_9
      try clear hcz74_0
      try clear hcz74_1
      try clear hcz74_10
      try clear hcz74_11
      try clear hcz74_12
      try clear hcz74_2
      try clear hcz74_3
      try clear hcz74_4
      try clear hcz74_5
      try clear hcz74_6
      try clear hcz74_7
      try clear hcz74_8
      try clear hcz74_9
      try clear hfz17_0
      try clear hfz17_1
      try clear hfz17_10
      try clear hfz17_11
      try clear hfz17_12
      try clear hfz17_2
      try clear hfz17_3
      try clear hfz17_4
      try clear hfz17_5
      try clear hfz17_6
      try clear hfz17_7
      try clear hfz17_8
      try clear hfz17_9
      try clear hfz25_0
      try clear hfz25_1
      try clear hfz25_10
      try clear hfz25_11
      try clear hfz25_12
      try clear hfz25_2
      try clear hfz25_3
      try clear hfz25_4
      try clear hfz25_5
      try clear hfz25_6
      try clear hfz25_7
      try clear hfz25_8
      try clear hfz25_9
      try clear hfz29_0
      try clear hfz29_1
      try clear hfz29_10
      try clear hfz29_11
      try clear hfz29_12
      try clear hfz29_2
      try clear hfz29_3
      try clear hfz29_4
      try clear hfz29_5
      try clear hfz29_6
      try clear hfz29_7
      try clear hfz29_8
      try clear hfz29_9
      try clear hfz33_0
      try clear hfz33_1
      try clear hfz33_10
      try clear hfz33_11
      try clear hfz33_12
      try clear hfz33_2
      try clear hfz33_3
      try clear hfz33_4
      try clear hfz33_5
      try clear hfz33_6
      try clear hfz33_7
      try clear hfz33_8
      try clear hfz33_9
      try clear hfz37_0
      try clear hfz37_1
      try clear hfz37_10
      try clear hfz37_11
      try clear hfz37_12
      try clear hfz37_2
      try clear hfz37_3
      try clear hfz37_4
      try clear hfz37_5
      try clear hfz37_6
      try clear hfz37_7
      try clear hfz37_8
      try clear hfz37_9
      try clear hfz41_0
      try clear hfz41_1
      try clear hfz41_10
      try clear hfz41_11
      try clear hfz41_12
      try clear hfz41_2
      try clear hfz41_3
      try clear hfz41_4
      try clear hfz41_5
      try clear hfz41_6
      try clear hfz41_7
      try clear hfz41_8
      try clear hfz41_9
      try clear hfz45_0
      try clear hfz45_1
      try clear hfz45_10
      try clear hfz45_11
      try clear hfz45_12
      try clear hfz45_2
      try clear hfz45_3
      try clear hfz45_4
      try clear hfz45_5
      try clear hfz45_6
      try clear hfz45_7
      try clear hfz45_8
      try clear hfz45_9
      try clear hfz49_0
      try clear hfz49_1
      try clear hfz49_10
      try clear hfz49_11
      try clear hfz49_12
      try clear hfz49_2
      try clear hfz49_3
      try clear hfz49_4
      try clear hfz49_5
      try clear hfz49_6
      try clear hfz49_7
      try clear hfz49_8
      try clear hfz49_9
      try clear hfz53_0
      try clear hfz53_1
      try clear hfz53_10
      try clear hfz53_11
      try clear hfz53_12
      try clear hfz53_2
      try clear hfz53_3
      try clear hfz53_4
      try clear hfz53_5
      try clear hfz53_6
      try clear hfz53_7
      try clear hfz53_8
      try clear hfz53_9
      try clear hfz57_0
      try clear hfz57_1
      try clear hfz57_10
      try clear hfz57_11
      try clear hfz57_12
      try clear hfz57_2
      try clear hfz57_3
      try clear hfz57_4
      try clear hfz57_5
      try clear hfz57_6
      try clear hfz57_7
      try clear hfz57_8
      try clear hfz57_9
      try clear hfz60_0
      try clear hfz60_1
      try clear hfz60_10
      try clear hfz60_11
      try clear hfz60_12
      try clear hfz60_2
      try clear hfz60_3
      try clear hfz60_4
      try clear hfz60_5
      try clear hfz60_6
      try clear hfz60_7
      try clear hfz60_8
      try clear hfz60_9
      try clear hfz67_0
      try clear hfz67_1
      try clear hfz67_10
      try clear hfz67_11
      try clear hfz67_12
      try clear hfz67_2
      try clear hfz67_3
      try clear hfz67_4
      try clear hfz67_5
      try clear hfz67_6
      try clear hfz67_7
      try clear hfz67_8
      try clear hfz67_9
      try clear hfz72_0
      try clear hfz72_1
      try clear hfz72_10
      try clear hfz72_11
      try clear hfz72_12
      try clear hfz72_2
      try clear hfz72_3
      try clear hfz72_4
      try clear hfz72_5
      try clear hfz72_6
      try clear hfz72_7
      try clear hfz72_8
      try clear hfz72_9
      try clear hfz74_0
      try clear hfz74_1
      try clear hfz74_10
      try clear hfz74_11
      try clear hfz74_12
      try clear hfz74_2
      try clear hfz74_3
      try clear hfz74_4
      try clear hfz74_5
      try clear hfz74_6
      try clear hfz74_7
      try clear hfz74_8
      try clear hfz74_9
      try clear p2
      try clear p6
      obtain ⟨kq, x99_61, rfl, HA, HJ61, HO_534000, HO_534001, BK513, BK514, BK533, HB⟩ := hcut
      cases kq with
      | zero => exact absurd HA.out (by simp [drumlinelaw8_ClockTick.j1])
      | succ kj61 =>
       have H := HA.out
       clear HA
       simp only [drumlinelaw8_ClockTick.j1] at H
       by_cases c76 : x99_61 = true
       ·subst c76
        have H1 : (some true) = some r := by rw [if_pos rfl] at H; exact H
        clear H
        have H := H1
        clear H1
        obtain rfl := Option.some.inj H
        go_wp2
        go_ret
        exact ⟨by first | rfl | (simp [errW_none, errW_some] <;> rfl) | (simp [*, errW_none, errW_some] <;> rfl), by repeat (first | (with_reducible first | exact HB.out | apply below_alloc | apply pw_below_drewN | apply below_drew1 | refine below_set ?_ GE513.out | refine below_set ?_ GE514.out | refine below_set ?_ GE533.out) | exact HB.out)⟩
       ·replace c76 := Bool.eq_false_iff.mpr c76
        subst c76
        have H1 : ((drumlineref5_Near.f kj61 t516 t519 t522 t523 t524 t525 t526 t527 t528 t529 t530 t531 t532).bind fun t536 => (if (wrap64 (t522 - t536)) = 0 then (none) else ((clock_Reading.f a3_0 7 t522 (wrap64 (a1_0 + a2)) (wrap64 ((mx a3_0 a3_1) + (Int.tmod (wrap64 (a4)) (wrap64 (t522 - t536)))))).bind fun bt537 => ((clock_Reading.f a3_1 7 t522 (wrap64 (a1_1 + a2)) (wrap64 ((mx a3_0 a3_1) + (Int.tmod (wrap64 (a4)) (wrap64 (t522 - t536)))))).bind fun bt539 => (if bt537.2 = true then (if bt539.2 = true then ((bounds_Tick.f kj61 t516 t519 t522 t523 t524 t525 t526 t527 t528 t529 t530 t531 t532).bind fun t541 => (if (wrap64 (bt537.1 - bt539.1)) ≤ t541 then ((bounds_Tick.f kj61 t516 t519 t522 t523 t524 t525 t526 t527 t528 t529 t530 t531 t532).bind fun t542 => (some (decide ((wrap64 (bt539.1 - bt537.1)) ≤ t542)))) else (some false))) else (some false)) else (some false)))))) = some r := by rw [if_neg (show ¬ (false = true) by decide)] at H; exact H
        clear H
        have H := H1
        clear H1
        obtain ⟨ji77, hji77⟩ : ∃ j_ : Int, (mx a3_0 a3_1) = j_ := ⟨_, rfl⟩
        replace H : ((drumlineref5_Near.f kj61 t516 t519 t522 t523 t524 t525 t526 t527 t528 t529 t530 t531 t532).bind fun t536 => (if (wrap64 (t522 - t536)) = 0 then (none) else ((clock_Reading.f a3_0 7 t522 (wrap64 (a1_0 + a2)) (wrap64 ((ji77) + (Int.tmod (wrap64 (a4)) (wrap64 (t522 - t536)))))).bind fun bt537 => ((clock_Reading.f a3_1 7 t522 (wrap64 (a1_1 + a2)) (wrap64 ((ji77) + (Int.tmod (wrap64 (a4)) (wrap64 (t522 - t536)))))).bind fun bt539 => (if bt537.2 = true then (if bt539.2 = true then ((bounds_Tick.f kj61 t516 t519 t522 t523 t524 t525 t526 t527 t528 t529 t530 t531 t532).bind fun t541 => (if (wrap64 (bt537.1 - bt539.1)) ≤ t541 then ((bounds_Tick.f kj61 t516 t519 t522 t523 t524 t525 t526 t527 t528 t529 t530 t531 t532).bind fun t542 => (some (decide ((wrap64 (bt539.1 - bt537.1)) ≤ t542)))) else (some false))) else (some false)) else (some false)))))) = some r := by first | (rw [hji77] at H; exact H) | (simp only [hji77] at H ⊢; exact H)
        have hji77_ : (if a3_0 < a3_1 then a3_1 else a3_0) = ji77 := hji77
        replace H := Option.bind_eq_some_iff.mp H
        obtain ⟨t536, A780, H⟩ := H
        replace H : (if (wrap64 (t522 - t536)) = 0 then (none) else ((clock_Reading.f a3_0 7 t522 (wrap64 (a1_0 + a2)) (wrap64 ((ji77) + (Int.tmod (wrap64 (a4)) (wrap64 (t522 - t536)))))).bind fun bt537 => ((clock_Reading.f a3_1 7 t522 (wrap64 (a1_1 + a2)) (wrap64 ((ji77) + (Int.tmod (wrap64 (a4)) (wrap64 (t522 - t536)))))).bind fun bt539 => (if bt537.2 = true then (if bt539.2 = true then ((bounds_Tick.f kj61 t516 t519 t522 t523 t524 t525 t526 t527 t528 t529 t530 t531 t532).bind fun t541 => (if (wrap64 (bt537.1 - bt539.1)) ≤ t541 then ((bounds_Tick.f kj61 t516 t519 t522 t523 t524 t525 t526 t527 t528 t529 t530 t531 t532).bind fun t542 => (some (decide ((wrap64 (bt539.1 - bt537.1)) ≤ t542)))) else (some false))) else (some false)) else (some false))))) = some r := H
        have A78 := Aside0.mk A780
        clear A780
        by_cases c79 : (wrap64 (t522 - t536)) = 0
        ·rw [if_pos c79] at H
         exact absurd H (by simp)
        ·rw [if_neg c79] at H
         have c79b0 : ((wrap64 (t522 - t536)) == 0) = false := beq_eq_false_iff_ne.mpr c79
         have c79b1 : ((wrap64 (t522 - t536)) != 0) = true := bne_iff_ne.mpr c79
         replace H := Option.bind_eq_some_iff.mp H
         obtain ⟨⟨t537, t538⟩, A800, H⟩ := H
         replace H : ((clock_Reading.f a3_1 7 t522 (wrap64 (a1_1 + a2)) (wrap64 ((ji77) + (Int.tmod (wrap64 (a4)) (wrap64 (t522 - t536)))))).bind fun bt539 => (if t538 = true then (if bt539.2 = true then ((bounds_Tick.f kj61 t516 t519 t522 t523 t524 t525 t526 t527 t528 t529 t530 t531 t532).bind fun t541 => (if (wrap64 (t537 - bt539.1)) ≤ t541 then ((bounds_Tick.f kj61 t516 t519 t522 t523 t524 t525 t526 t527 t528 t529 t530 t531 t532).bind fun t542 => (some (decide ((wrap64 (bt539.1 - t537)) ≤ t542)))) else (some false))) else (some false)) else (some false))) = some r := H
         have A80 := Aside0.mk A800
         clear A800
         replace H := Option.bind_eq_some_iff.mp H
         obtain ⟨⟨t539, t540⟩, A810, H⟩ := H
         replace H : (if t538 = true then (if t540 = true then ((bounds_Tick.f kj61 t516 t519 t522 t523 t524 t525 t526 t527 t528 t529 t530 t531 t532).bind fun t541 => (if (wrap64 (t537 - t539)) ≤ t541 then ((bounds_Tick.f kj61 t516 t519 t522 t523 t524 t525 t526 t527 t528 t529 t530 t531 t532).bind fun t542 => (some (decide ((wrap64 (t539 - t537)) ≤ t542)))) else (some false))) else (some false)) else (some false)) = some r := H
         have A81 := Aside0.mk A810
         clear A810
         by_cases c82 : t538 = true
         ·subst c82
          have H1 : (if t540 = true then ((bounds_Tick.f kj61 t516 t519 t522 t523 t524 t525 t526 t527 t528 t529 t530 t531 t532).bind fun t541 => (if (wrap64 (t537 - t539)) ≤ t541 then ((bounds_Tick.f kj61 t516 t519 t522 t523 t524 t525 t526 t527 t528 t529 t530 t531 t532).bind fun t542 => (some (decide ((wrap64 (t539 - t537)) ≤ t542)))) else (some false))) else (some false)) = some r := by rw [if_pos rfl] at H; exact H
          clear H
          have H := H1
          clear H1
          by_cases c83 : t540 = true
          ·subst c83
           have H1 : ((bounds_Tick.f kj61 t516 t519 t522 t523 t524 t525 t526 t527 t528 t529 t530 t531 t532).bind fun t541 => (if (wrap64 (t537 - t539)) ≤ t541 then ((bounds_Tick.f kj61 t516 t519 t522 t523 t524 t525 t526 t527 t528 t529 t530 t531 t532).bind fun t542 => (some (decide ((wrap64 (t539 - t537)) ≤ t542)))) else (some false))) = some r := by rw [if_pos rfl] at H; exact H
           clear H
           have H := H1
           clear H1
           replace H := Option.bind_eq_some_iff.mp H
           obtain ⟨t541, A840, H⟩ := H
           replace H : (if (wrap64 (t537 - t539)) ≤ t541 then ((bounds_Tick.f kj61 t516 t519 t522 t523 t524 t525 t526 t527 t528 t529 t530 t531 t532).bind fun t542 => (some (decide ((wrap64 (t539 - t537)) ≤ t542)))) else (some false)) = some r := H
           have A84 := Aside0.mk A840
           clear A840
           by_cases c85 : (wrap64 (t537 - t539)) ≤ t541
           ·rw [if_pos c85] at H
            have c85b0 : decide ((wrap64 (t537 - t539)) ≤ t541) = true := decide_eq_true c85
            clear c85
            replace H := Option.bind_eq_some_iff.mp H
            obtain ⟨t542, A860, H⟩ := H
            replace H : (some (decide ((wrap64 (t539 - t537)) ≤ t542))) = some r := H
            have A86 := Aside0.mk A860
            clear A860
            obtain rfl : t541 = t542 := Option.some.inj (A84.out.symm.trans A86.out)
            obtain rfl := Option.some.inj H
            try go_wp2
            have n0_ := Aside0.mk (Kd.R_drew HO_534000.out)
            have n1_ := Aside0.mk (Kd.R_drew HO_534001.out)
            have n2_ := Aside0.mk (blk_drew BK513.out)
            have n3_ := Aside0.mk (blk_drew BK514.out)
            have n4_ := Aside0.mk (blk_drew BK533.out)
            have n5_ := Aside0.mk (below_drew1 HB.out)
            clear HO_534000
            clear HO_534001
            clear BK513
            clear BK514
            clear BK533
            clear HB
            have HO_534000 := n0_
            have HO_534001 := n1_
            have BK513 := n2_
            have BK514 := n3_
            have BK533 := n4_
            have HB := n5_
            clear n0_ n1_ n2_ n3_ n4_ n5_
            refine start_ (n := 13) (S := fun w' => w'.cell? ⟨gb533, 0, none⟩ = some (.slice Ao14 t516.length co14) ∧ w'.cell? ⟨gb533, 1, none⟩ = some (.slice Ao18 t519.length co18) ∧ w'.cell? ⟨gb533, 2, none⟩ = some (.int .i64 t522) ∧ w'.cell? ⟨gb533, 3, none⟩ = some (.int .i64 t523) ∧ w'.cell? ⟨gb533, 4, none⟩ = some (.int .i64 t524) ∧ w'.cell? ⟨gb533, 5, none⟩ = some (.int .i64 t525) ∧ w'.cell? ⟨gb533, 6, none⟩ = some (.int .i64 t526) ∧ w'.cell? ⟨gb533, 7, none⟩ = some (.int .i64 t527) ∧ w'.cell? ⟨gb533, 8, none⟩ = some (.int .i64 t528) ∧ w'.cell? ⟨gb533, 9, none⟩ = some (.int .i64 t529) ∧ w'.cell? ⟨gb533, 10, none⟩ = some (.int .i64 t530) ∧ w'.cell? ⟨gb533, 11, none⟩ = some (.int .i64 t531) ∧ w'.cell? ⟨gb533, 12, none⟩ = some (.int .i64 t532)) (ds := []) #[false, false, false, false, false, false, false, false, false, false, false, false, false] (by kernel_rfl) rfl rfl ⟨(blk_cell BK533.out 0).trans rfl, (blk_cell BK533.out 1).trans rfl, (blk_cell BK533.out 2).trans rfl, (blk_cell BK533.out 3).trans rfl, (blk_cell BK533.out 4).trans rfl, (blk_cell BK533.out 5).trans rfl, (blk_cell BK533.out 6).trans rfl, (blk_cell BK533.out 7).trans rfl, (blk_cell BK533.out 8).trans rfl, (blk_cell BK533.out 9).trans rfl, (blk_cell BK533.out 10).trans rfl, (blk_cell BK533.out 11).trans rfl, (blk_cell BK533.out 12).trans rfl⟩ (fun hHeld => ?_); refine with_tabW drumlinelaw8_ClockTick.tab10 drumlinelaw8_ClockTick.bits10 (fun HT_ HW_ => ?_)
            generalize wc.drew = w87 at HO_534000 HO_534001 BK513 BK514 BK533 HB hHeld ⊢
            refine pure_ (i := 0) (N := some 100) (v := ?_) (a' := ?_) #[true, false, false, false, false, false, false, false, false, false, false, false, false] rfl rfl (any_of HT_.out (by kernel_rfl)) (fun _ _ _ h => h) (Or.inl ⟨by rfl, ?_⟩) ?_ ?_
            rotate_left
            ·intro w'
             go_simp
             with_reducible rfl
            rotate_left
            ·simp only [Act.put, List.setIfInBounds_toArray, List.set_cons_zero, List.set_cons_succ, i64_w, i32_w]
             rfl
            refine pure_ (i := 1) (N := some 101) (v := ?_) (a' := ?_) #[true, true, false, false, false, false, false, false, false, false, false, false, false] rfl rfl (any_of HT_.out (by kernel_rfl)) (fun _ _ _ h => h) (Or.inl ⟨by rfl, ?_⟩) ?_ ?_
            rotate_left
            ·intro w'
             go_simp
             with_reducible rfl
            rotate_left
            ·simp only [Act.put, List.setIfInBounds_toArray, List.set_cons_zero, List.set_cons_succ, i64_w, i32_w]
             rfl
            refine pure_ (i := 2) (N := some 102) (v := ?_) (a' := ?_) #[true, true, true, false, false, false, false, false, false, false, false, false, false] rfl rfl (any_of HT_.out (by kernel_rfl)) (fun _ _ _ h => h) (Or.inl ⟨by rfl, ?_⟩) ?_ ?_
            rotate_left
            ·intro w'
             go_simp
             with_reducible rfl
            rotate_left
            ·simp only [Act.put, List.setIfInBounds_toArray, List.set_cons_zero, List.set_cons_succ, i64_w, i32_w]
             rfl
            refine pure_ (i := 3) (N := some 103) (v := ?_) (a' := ?_) #[true, true, true, true, false, false, false, false, false, false, false, false, false] rfl rfl (any_of HT_.out (by kernel_rfl)) (fun _ _ _ h => h) (Or.inl ⟨by rfl, ?_⟩) ?_ ?_
            rotate_left
            ·intro w'
             go_simp
             with_reducible rfl
            rotate_left
            ·simp only [Act.put, List.setIfInBounds_toArray, List.set_cons_zero, List.set_cons_succ, i64_w, i32_w]
             rfl
            refine pure_ (i := 4) (N := some 104) (v := ?_) (a' := ?_) #[true, true, true, true, true, false, false, false, false, false, false, false, false] rfl rfl (any_of HT_.out (by kernel_rfl)) (fun _ _ _ h => h) (Or.inl ⟨by rfl, ?_⟩) ?_ ?_
            rotate_left
            ·intro w'
             go_simp
             with_reducible rfl
            rotate_left
            ·simp only [Act.put, List.setIfInBounds_toArray, List.set_cons_zero, List.set_cons_succ, i64_w, i32_w]
             rfl
            refine pure_ (i := 5) (N := some 105) (v := ?_) (a' := ?_) #[true, true, true, true, true, true, false, false, false, false, false, false, false] rfl rfl (any_of HT_.out (by kernel_rfl)) (fun _ _ _ h => h) (Or.inl ⟨by rfl, ?_⟩) ?_ ?_
            rotate_left
            ·intro w'
             go_simp
             with_reducible rfl
            rotate_left
            ·simp only [Act.put, List.setIfInBounds_toArray, List.set_cons_zero, List.set_cons_succ, i64_w, i32_w]
             rfl
            refine take_ (i := 6) (N := some 106) (v := ?_) (a' := ?_) #[true, true, true, true, true, true, true, false, false, false, false, false, false] rfl rfl (take_ofW HT_.out HW_.out (by kernel_rfl)) (fun _ _ _ h => h) (Or.inl ⟨by rfl, ?_⟩) hHeld ?_ ?_
            rotate_left
            ·rintro w' ⟨s0, s1, s2, s3, s4, s5, s6, s7, s8, s9, s10, s11, s12⟩
             go_simp
             with_reducible rfl
            rotate_left
            ·simp only [Act.put, List.setIfInBounds_toArray, List.set_cons_zero, List.set_cons_succ, i64_w, i32_w]
             rfl
            refine take_ (i := 7) (N := some 107) (v := ?_) (a' := ?_) #[true, true, true, true, true, true, true, true, false, false, false, false, false] rfl rfl (take_ofW HT_.out HW_.out (by kernel_rfl)) (fun _ _ _ h => h) (Or.inl ⟨by rfl, ?_⟩) hHeld ?_ ?_
            rotate_left
            ·rintro w' ⟨s0, s1, s2, s3, s4, s5, s6, s7, s8, s9, s10, s11, s12⟩
             go_simp
             with_reducible rfl
            rotate_left
            ·simp only [Act.put, List.setIfInBounds_toArray, List.set_cons_zero, List.set_cons_succ, i64_w, i32_w]
             rfl
            refine one_ (i := 8) (N := some 108) #[true, true, true, true, true, true, true, true, true, false, false, false, false] rfl rfl (one_of HT_.out (by kernel_rfl)) (by decide) (fun K hK => ?_)
            refine goes_ Tryd.func27 (by kernel_rfl) rfl #[.agg #[.slice Ao14 t516.length co14, .slice Ao18 t519.length co18, .int .i64 t522, .int .i64 t523, .int .i64 t524, .int .i64 t525, .int .i64 t526, .int .i64 t527, .int .i64 t528, .int .i64 t529, .int .i64 t530, .int .i64 t531, .int .i64 t532]] (by rfl) rfl rfl (by (try simp only [List.map_toArray, List.map_cons, List.map_nil]); first | done | rfl | (simp only [List.length_drop, List.length_take]; rfl)) ?_
            with_reducible refine (drumlineref5_Near.calls kj61 _ _ t516 _ _ t519 t522 t523 t524 t525 t526 t527 t528 t529 t530 t531 t532 t536 _ ?side1 ?side2 ?side3 ?side4 A78.out).mono ?_
            (case side1 => repeat (first | exact (Kd.R_reads' HO_534000.out).2.2 | (with_reducible refine Kd.C_alloc ?_ _) | (with_reducible refine Kd.C_drewN ?_ _) | (with_reducible refine Kd.C_drew ?_)))
            (case side2 => exact (Kd.R_reads' HO_534000.out).2.1)
            (case side3 => repeat (first | exact (Kd.R_reads' HO_534001.out).2.2 | (with_reducible refine Kd.C_alloc ?_ _) | (with_reducible refine Kd.C_drewN ?_ _) | (with_reducible refine Kd.C_drew ?_)))
            (case side4 => exact (Kd.R_reads' HO_534001.out).2.1)
            rintro e w88 ⟨rfl, hb⟩
            refine ⟨_, rfl, ?_⟩
            have n0_ := Aside0.mk (Kd.R_below (by (with_reducible repeat (first | apply Kd.R_alloc | apply Kd.R_drewN | apply Kd.R_drew)); exact HO_534000.out) hb)
            have n1_ := Aside0.mk (Kd.R_below (by (with_reducible repeat (first | apply Kd.R_alloc | apply Kd.R_drewN | apply Kd.R_drew)); exact HO_534001.out) hb)
            have n2_ := Aside0.mk (blk_below (g := gb513) (o := .cells #[.int .i64 a1_0, .int .i64 a1_1] 35 (0, 0)) (by (with_reducible repeat (first | refine blk_drewN ?_ _ | refine blk_drew ?_ | refine blk_alloc ?_ _)); exact BK513.out) hb)
            have n3_ := Aside0.mk (blk_below (g := gb514) (o := .cells #[.int .i64 a3_0, .int .i64 a3_1] 47 (0, 0)) (by (with_reducible repeat (first | refine blk_drewN ?_ _ | refine blk_drew ?_ | refine blk_alloc ?_ _)); exact BK514.out) hb)
            have n4_ := Aside0.mk (blk_below (g := gb533) (o := .cells #[.slice Ao14 t516.length co14, .slice Ao18 t519.length co18, .int .i64 t522, .int .i64 t523, .int .i64 t524, .int .i64 t525, .int .i64 t526, .int .i64 t527, .int .i64 t528, .int .i64 t529, .int .i64 t530, .int .i64 t531, .int .i64 t532] 25 (0, 0)) (by (with_reducible repeat (first | refine blk_drewN ?_ _ | refine blk_drew ?_ | refine blk_alloc ?_ _)); exact BK533.out) hb)
            have n5_ := Aside0.mk (below_step (by repeat (first | (with_reducible first | exact HB.out | apply below_alloc | apply pw_below_drewN | apply below_drew1 | refine below_set ?_ GE513.out | refine below_set ?_ GE514.out | refine below_set ?_ GE533.out) | exact HB.out)) hb)
            clear HO_534000
            clear HO_534001
            clear BK513
            clear BK514
            clear BK533
            clear HB
            have HO_534000 := n0_
            have HO_534001 := n1_
            have BK513 := n2_
            have BK514 := n3_
            have BK533 := n4_
            have HB := n5_
            clear n0_ n1_ n2_ n3_ n4_ n5_
            (try clear hb)
            (try clear hb2)
            (try clear hk)
            (try clear hi)
            refine hK.out _ _ ⟨(blk_cell BK533.out 0).trans rfl, (blk_cell BK533.out 1).trans rfl, (blk_cell BK533.out 2).trans rfl, (blk_cell BK533.out 3).trans rfl, (blk_cell BK533.out 4).trans rfl, (blk_cell BK533.out 5).trans rfl, (blk_cell BK533.out 6).trans rfl, (blk_cell BK533.out 7).trans rfl, (blk_cell BK533.out 8).trans rfl, (blk_cell BK533.out 9).trans rfl, (blk_cell BK533.out 10).trans rfl, (blk_cell BK533.out 11).trans rfl, (blk_cell BK533.out 12).trans rfl⟩ (fun hHeld => ?_)
            clear hK K
            refine norm_ (a' := ?_) ?_ ?_
            rotate_left
            ·show Act.put _ (some 108) _ = _
             simp only [Act.put, List.setIfInBounds_toArray, List.set_cons_zero, List.set_cons_succ, i64_w, i32_w]
             rfl
            refine pure_ (i := 9) (N := some 109) (v := ?_) (a' := ?_) #[true, true, true, true, true, true, true, true, true, true, false, false, false] rfl rfl (any_of HT_.out (by kernel_rfl)) (fun _ _ _ h => h) (Or.inl ⟨by rfl, ?_⟩) ?_ ?_
            rotate_left
            ·intro w'
             go_simp
             with_reducible rfl
            rotate_left
            ·simp only [Act.put, List.setIfInBounds_toArray, List.set_cons_zero, List.set_cons_succ, i64_w, i32_w]
             rfl
            refine pure_ (i := 10) (N := some 110) (v := ?_) (a' := ?_) #[true, true, true, true, true, true, true, true, true, true, true, false, false] rfl rfl (any_of HT_.out (by kernel_rfl)) (fun _ _ _ h => h) (Or.inl ⟨by rfl, ?_⟩) ?_ ?_
            rotate_left
            ·intro w'
             go_simp
             with_reducible rfl
            rotate_left
            ·simp only [Act.put, List.setIfInBounds_toArray, List.set_cons_zero, List.set_cons_succ, i64_w, i32_w]
             rfl
            refine pure_ (i := 11) (N := some 111) (v := ?_) (a' := ?_) #[true, true, true, true, true, true, true, true, true, true, true, true, false] rfl rfl (any_of HT_.out (by kernel_rfl)) (fun _ _ _ h => h) (Or.inl ⟨by rfl, ?_⟩) ?_ ?_
            rotate_left
            ·intro w'
             go_simp
             with_reducible rfl
            rotate_left
            ·simp only [Act.put, List.setIfInBounds_toArray, List.set_cons_zero, List.set_cons_succ, i64_w, i32_w]
             rfl
            refine pure_ (i := 12) (N := some 16) (v := ?_) (a' := ?_) #[true, true, true, true, true, true, true, true, true, true, true, true, true] rfl rfl (any_of HT_.out (by kernel_rfl)) (fun _ _ _ h => h) (Or.inl ⟨by rfl, ?_⟩) ?_ ?_
            rotate_left
            ·intro w'
             go_simp
             with_reducible rfl
            rotate_left
            ·simp only [Act.put, List.setIfInBounds_toArray, List.set_cons_zero, List.set_cons_succ, i64_w, i32_w]
             rfl
            refine done_ (done_of HT_.out (by kernel_rfl)) ?_
            have hnb89 := NB533_513.out
            have hnc89 := NB513_533.out
            have hnb90 := NB533_514.out
            have hnc90 := NB514_533.out
            obtain ⟨hcz91_0, hcz91_1, hcz91_2, hcz91_3, hcz91_4, hcz91_5, hcz91_6, hcz91_7, hcz91_8, hcz91_9, hcz91_10, hcz91_11, hcz91_12⟩ := cellsK13 BK533.out
            obtain ⟨hfz91_0, hfz91_1, hfz91_2, hfz91_3, hfz91_4, hfz91_5, hfz91_6, hfz91_7, hfz91_8, hfz91_9, hfz91_10, hfz91_11, hfz91_12⟩ := frozK13 BK533.out
            try go_wp2_with (first | ((with_reducible refine gate_callee (f := 28) rfl ?_); refine goesL_ (some 120) rfl rfl Tryd.func28 (by kernel_rfl) rfl #[.int .i64 a3_0, .int .i64 7, .int .i64 t522, .int .i64 (wrap64 (a1_0 + a2)), .int .i64 (wrap64 ((ji77) + (Int.tmod (wrap64 (a4)) (wrap64 (t522 - t536)))))] rfl (by (try simp only [List.map_toArray, List.map_cons, List.map_nil]); first | done | (simp only [hji77]; rfl) | rfl | (simp only [List.length_drop, List.length_take]; rfl)) ?_; (with_reducible refine (clock_Reading.calls a3_0 7 t522 (wrap64 (a1_0 + a2)) (wrap64 ((ji77) + (Int.tmod (wrap64 (a4)) (wrap64 (t522 - t536))))) t537 true _ A80.out).mono ?_); rintro e w' ⟨rfl, ⟨nd, rfl⟩⟩; refine ⟨_, rfl, ?_⟩) | ((with_reducible refine gate_callee (f := 28) rfl ?_); refine goesL_ (some 131) rfl rfl Tryd.func28 (by kernel_rfl) rfl #[.int .i64 a3_1, .int .i64 7, .int .i64 t522, .int .i64 (wrap64 (a1_1 + a2)), .int .i64 (wrap64 ((ji77) + (Int.tmod (wrap64 (a4)) (wrap64 (t522 - t536)))))] rfl (by (try simp only [List.map_toArray, List.map_cons, List.map_nil]); first | done | (simp only [hji77]; rfl) | rfl | (simp only [List.length_drop, List.length_take]; rfl)) ?_; (with_reducible refine (clock_Reading.calls a3_1 7 t522 (wrap64 (a1_1 + a2)) (wrap64 ((ji77) + (Int.tmod (wrap64 (a4)) (wrap64 (t522 - t536))))) t539 true _ A81.out).mono ?_); rintro e w' ⟨rfl, ⟨nd, rfl⟩⟩; refine ⟨_, rfl, ?_⟩) | (go_at_call 29; (with_reducible refine (bounds_Tick.calls kj61 _ _ t516 _ _ t519 t522 t523 t524 t525 t526 t527 t528 t529 t530 t531 t532 t541 _ ?side1 ?side2 ?side3 ?side4 A84.out).mono ?_); (case side1 => repeat (first | exact (Kd.R_reads' HO_534000.out).2.2 | (with_reducible refine Kd.C_alloc ?_ _) | (with_reducible refine Kd.C_drewN ?_ _) | (with_reducible refine Kd.C_drew ?_))); (case side2 => exact (Kd.R_reads' HO_534000.out).2.1); (case side3 => repeat (first | exact (Kd.R_reads' HO_534001.out).2.2 | (with_reducible refine Kd.C_alloc ?_ _) | (with_reducible refine Kd.C_drewN ?_ _) | (with_reducible refine Kd.C_drew ?_))); (case side4 => exact (Kd.R_reads' HO_534001.out).2.1); rintro e w92 ⟨rfl, hb⟩; have n0_ := Aside0.mk (Kd.R_below (by (with_reducible repeat (first | apply Kd.R_alloc | apply Kd.R_drewN | apply Kd.R_drew)); exact HO_534000.out) hb); have n1_ := Aside0.mk (Kd.R_below (by (with_reducible repeat (first | apply Kd.R_alloc | apply Kd.R_drewN | apply Kd.R_drew)); exact HO_534001.out) hb); have n2_ := Aside0.mk (blk_below (g := gb513) (o := .cells #[.int .i64 a1_0, .int .i64 a1_1] 35 (0, 0)) (by (with_reducible repeat (first | refine blk_drewN ?_ _ | refine blk_drew ?_ | refine blk_alloc ?_ _)); exact BK513.out) hb); have n3_ := Aside0.mk (blk_below (g := gb514) (o := .cells #[.int .i64 a3_0, .int .i64 a3_1] 47 (0, 0)) (by (with_reducible repeat (first | refine blk_drewN ?_ _ | refine blk_drew ?_ | refine blk_alloc ?_ _)); exact BK514.out) hb); have n4_ := Aside0.mk (blk_below (g := gb533) (o := .cells #[.slice Ao14 t516.length co14, .slice Ao18 t519.length co18, .int .i64 t522, .int .i64 t523, .int .i64 t524, .int .i64 t525, .int .i64 t526, .int .i64 t527, .int .i64 t528, .int .i64 t529, .int .i64 t530, .int .i64 t531, .int .i64 t532] 25 (0, 0)) (by (with_reducible repeat (first | refine blk_drewN ?_ _ | refine blk_drew ?_ | refine blk_alloc ?_ _)); exact BK533.out) hb); have n5_ := Aside0.mk (below_step (by repeat (first | (with_reducible first | exact HB.out | apply below_alloc | apply pw_below_drewN | apply below_drew1 | refine below_set ?_ GE513.out | refine below_set ?_ GE514.out | refine below_set ?_ GE533.out) | exact HB.out)) hb); clear HO_534000; clear HO_534001; clear BK513; clear BK514; clear BK533; clear HB; have HO_534000 := n0_; have HO_534001 := n1_; have BK513 := n2_; have BK514 := n3_; have BK533 := n4_; have HB := n5_; clear n0_ n1_ n2_ n3_ n4_ n5_; (try clear hb); (try clear hb2); (try clear hk); (try clear hi); obtain ⟨hcz93_0, hcz93_1, hcz93_2, hcz93_3, hcz93_4, hcz93_5, hcz93_6, hcz93_7, hcz93_8, hcz93_9, hcz93_10, hcz93_11, hcz93_12⟩ := cellsK13 BK533.out; obtain ⟨hfz93_0, hfz93_1, hfz93_2, hfz93_3, hfz93_4, hfz93_5, hfz93_6, hfz93_7, hfz93_8, hfz93_9, hfz93_10, hfz93_11, hfz93_12⟩ := frozK13 BK533.out) | (go_at_call 29; (with_reducible refine (bounds_Tick.calls kj61 _ _ t516 _ _ t519 t522 t523 t524 t525 t526 t527 t528 t529 t530 t531 t532 t541 _ ?side1 ?side2 ?side3 ?side4 A86.out).mono ?_); (case side1 => repeat (first | exact (Kd.R_reads' HO_534000.out).2.2 | (with_reducible refine Kd.C_alloc ?_ _) | (with_reducible refine Kd.C_drewN ?_ _) | (with_reducible refine Kd.C_drew ?_))); (case side2 => exact (Kd.R_reads' HO_534000.out).2.1); (case side3 => repeat (first | exact (Kd.R_reads' HO_534001.out).2.2 | (with_reducible refine Kd.C_alloc ?_ _) | (with_reducible refine Kd.C_drewN ?_ _) | (with_reducible refine Kd.C_drew ?_))); (case side4 => exact (Kd.R_reads' HO_534001.out).2.1); rintro e w94 ⟨rfl, hb⟩; have n0_ := Aside0.mk (Kd.R_below (by (with_reducible repeat (first | apply Kd.R_alloc | apply Kd.R_drewN | apply Kd.R_drew)); exact HO_534000.out) hb); have n1_ := Aside0.mk (Kd.R_below (by (with_reducible repeat (first | apply Kd.R_alloc | apply Kd.R_drewN | apply Kd.R_drew)); exact HO_534001.out) hb); have n2_ := Aside0.mk (blk_below (g := gb513) (o := .cells #[.int .i64 a1_0, .int .i64 a1_1] 35 (0, 0)) (by (with_reducible repeat (first | refine blk_drewN ?_ _ | refine blk_drew ?_ | refine blk_alloc ?_ _)); exact BK513.out) hb); have n3_ := Aside0.mk (blk_below (g := gb514) (o := .cells #[.int .i64 a3_0, .int .i64 a3_1] 47 (0, 0)) (by (with_reducible repeat (first | refine blk_drewN ?_ _ | refine blk_drew ?_ | refine blk_alloc ?_ _)); exact BK514.out) hb); have n4_ := Aside0.mk (blk_below (g := gb533) (o := .cells #[.slice Ao14 t516.length co14, .slice Ao18 t519.length co18, .int .i64 t522, .int .i64 t523, .int .i64 t524, .int .i64 t525, .int .i64 t526, .int .i64 t527, .int .i64 t528, .int .i64 t529, .int .i64 t530, .int .i64 t531, .int .i64 t532] 25 (0, 0)) (by (with_reducible repeat (first | refine blk_drewN ?_ _ | refine blk_drew ?_ | refine blk_alloc ?_ _)); exact BK533.out) hb); have n5_ := Aside0.mk (below_step (by repeat (first | (with_reducible first | exact HB.out | apply below_alloc | apply pw_below_drewN | apply below_drew1 | refine below_set ?_ GE513.out | refine below_set ?_ GE514.out | refine below_set ?_ GE533.out) | exact HB.out)) hb); clear HO_534000; clear HO_534001; clear BK513; clear BK514; clear BK533; clear HB; have HO_534000 := n0_; have HO_534001 := n1_; have BK513 := n2_; have BK514 := n3_; have BK533 := n4_; have HB := n5_; clear n0_ n1_ n2_ n3_ n4_ n5_; (try clear hb); (try clear hb2); (try clear hk); (try clear hi)))
            go_ret
            exact ⟨by first | rfl | (simp [errW_none, errW_some] <;> rfl) | (simp only [← hji77]; first | rfl | (simp [errW_none, errW_some] <;> rfl)) | (simp [*, errW_none, errW_some] <;> rfl), by repeat (first | (with_reducible first | exact HB.out | apply below_alloc | apply pw_below_drewN | apply below_drew1 | refine below_set ?_ GE513.out | refine below_set ?_ GE514.out | refine below_set ?_ GE533.out) | exact HB.out)⟩
           ·rw [if_neg c85] at H
            have c85b0 : decide ((wrap64 (t537 - t539)) ≤ t541) = false := decide_eq_false c85
            clear c85
            obtain rfl := Option.some.inj H
            try go_wp2
            have n0_ := Aside0.mk (Kd.R_drew HO_534000.out)
            have n1_ := Aside0.mk (Kd.R_drew HO_534001.out)
            have n2_ := Aside0.mk (blk_drew BK513.out)
            have n3_ := Aside0.mk (blk_drew BK514.out)
            have n4_ := Aside0.mk (blk_drew BK533.out)
            have n5_ := Aside0.mk (below_drew1 HB.out)
            clear HO_534000
            clear HO_534001
            clear BK513
            clear BK514
            clear BK533
            clear HB
            have HO_534000 := n0_
            have HO_534001 := n1_
            have BK513 := n2_
            have BK514 := n3_
            have BK533 := n4_
            have HB := n5_
            clear n0_ n1_ n2_ n3_ n4_ n5_
            refine start_ (n := 13) (S := fun w' => w'.cell? ⟨gb533, 0, none⟩ = some (.slice Ao14 t516.length co14) ∧ w'.cell? ⟨gb533, 1, none⟩ = some (.slice Ao18 t519.length co18) ∧ w'.cell? ⟨gb533, 2, none⟩ = some (.int .i64 t522) ∧ w'.cell? ⟨gb533, 3, none⟩ = some (.int .i64 t523) ∧ w'.cell? ⟨gb533, 4, none⟩ = some (.int .i64 t524) ∧ w'.cell? ⟨gb533, 5, none⟩ = some (.int .i64 t525) ∧ w'.cell? ⟨gb533, 6, none⟩ = some (.int .i64 t526) ∧ w'.cell? ⟨gb533, 7, none⟩ = some (.int .i64 t527) ∧ w'.cell? ⟨gb533, 8, none⟩ = some (.int .i64 t528) ∧ w'.cell? ⟨gb533, 9, none⟩ = some (.int .i64 t529) ∧ w'.cell? ⟨gb533, 10, none⟩ = some (.int .i64 t530) ∧ w'.cell? ⟨gb533, 11, none⟩ = some (.int .i64 t531) ∧ w'.cell? ⟨gb533, 12, none⟩ = some (.int .i64 t532)) (ds := []) #[false, false, false, false, false, false, false, false, false, false, false, false, false] (by kernel_rfl) rfl rfl ⟨(blk_cell BK533.out 0).trans rfl, (blk_cell BK533.out 1).trans rfl, (blk_cell BK533.out 2).trans rfl, (blk_cell BK533.out 3).trans rfl, (blk_cell BK533.out 4).trans rfl, (blk_cell BK533.out 5).trans rfl, (blk_cell BK533.out 6).trans rfl, (blk_cell BK533.out 7).trans rfl, (blk_cell BK533.out 8).trans rfl, (blk_cell BK533.out 9).trans rfl, (blk_cell BK533.out 10).trans rfl, (blk_cell BK533.out 11).trans rfl, (blk_cell BK533.out 12).trans rfl⟩ (fun hHeld => ?_); refine with_tabW drumlinelaw8_ClockTick.tab10 drumlinelaw8_ClockTick.bits10 (fun HT_ HW_ => ?_)
            generalize wc.drew = w95 at HO_534000 HO_534001 BK513 BK514 BK533 HB hHeld ⊢
            refine pure_ (i := 0) (N := some 100) (v := ?_) (a' := ?_) #[true, false, false, false, false, false, false, false, false, false, false, false, false] rfl rfl (any_of HT_.out (by kernel_rfl)) (fun _ _ _ h => h) (Or.inl ⟨by rfl, ?_⟩) ?_ ?_
            rotate_left
            ·intro w'
             go_simp
             with_reducible rfl
            rotate_left
            ·simp only [Act.put, List.setIfInBounds_toArray, List.set_cons_zero, List.set_cons_succ, i64_w, i32_w]
             rfl
            refine pure_ (i := 1) (N := some 101) (v := ?_) (a' := ?_) #[true, true, false, false, false, false, false, false, false, false, false, false, false] rfl rfl (any_of HT_.out (by kernel_rfl)) (fun _ _ _ h => h) (Or.inl ⟨by rfl, ?_⟩) ?_ ?_
            rotate_left
            ·intro w'
             go_simp
             with_reducible rfl
            rotate_left
            ·simp only [Act.put, List.setIfInBounds_toArray, List.set_cons_zero, List.set_cons_succ, i64_w, i32_w]
             rfl
            refine pure_ (i := 2) (N := some 102) (v := ?_) (a' := ?_) #[true, true, true, false, false, false, false, false, false, false, false, false, false] rfl rfl (any_of HT_.out (by kernel_rfl)) (fun _ _ _ h => h) (Or.inl ⟨by rfl, ?_⟩) ?_ ?_
            rotate_left
            ·intro w'
             go_simp
             with_reducible rfl
            rotate_left
            ·simp only [Act.put, List.setIfInBounds_toArray, List.set_cons_zero, List.set_cons_succ, i64_w, i32_w]
             rfl
            refine pure_ (i := 3) (N := some 103) (v := ?_) (a' := ?_) #[true, true, true, true, false, false, false, false, false, false, false, false, false] rfl rfl (any_of HT_.out (by kernel_rfl)) (fun _ _ _ h => h) (Or.inl ⟨by rfl, ?_⟩) ?_ ?_
            rotate_left
            ·intro w'
             go_simp
             with_reducible rfl
            rotate_left
            ·simp only [Act.put, List.setIfInBounds_toArray, List.set_cons_zero, List.set_cons_succ, i64_w, i32_w]
             rfl
            refine pure_ (i := 4) (N := some 104) (v := ?_) (a' := ?_) #[true, true, true, true, true, false, false, false, false, false, false, false, false] rfl rfl (any_of HT_.out (by kernel_rfl)) (fun _ _ _ h => h) (Or.inl ⟨by rfl, ?_⟩) ?_ ?_
            rotate_left
            ·intro w'
             go_simp
             with_reducible rfl
            rotate_left
            ·simp only [Act.put, List.setIfInBounds_toArray, List.set_cons_zero, List.set_cons_succ, i64_w, i32_w]
             rfl
            refine pure_ (i := 5) (N := some 105) (v := ?_) (a' := ?_) #[true, true, true, true, true, true, false, false, false, false, false, false, false] rfl rfl (any_of HT_.out (by kernel_rfl)) (fun _ _ _ h => h) (Or.inl ⟨by rfl, ?_⟩) ?_ ?_
            rotate_left
            ·intro w'
             go_simp
             with_reducible rfl
            rotate_left
            ·simp only [Act.put, List.setIfInBounds_toArray, List.set_cons_zero, List.set_cons_succ, i64_w, i32_w]
             rfl
            refine take_ (i := 6) (N := some 106) (v := ?_) (a' := ?_) #[true, true, true, true, true, true, true, false, false, false, false, false, false] rfl rfl (take_ofW HT_.out HW_.out (by kernel_rfl)) (fun _ _ _ h => h) (Or.inl ⟨by rfl, ?_⟩) hHeld ?_ ?_
            rotate_left
            ·rintro w' ⟨s0, s1, s2, s3, s4, s5, s6, s7, s8, s9, s10, s11, s12⟩
             go_simp
             with_reducible rfl
            rotate_left
            ·simp only [Act.put, List.setIfInBounds_toArray, List.set_cons_zero, List.set_cons_succ, i64_w, i32_w]
             rfl
            refine take_ (i := 7) (N := some 107) (v := ?_) (a' := ?_) #[true, true, true, true, true, true, true, true, false, false, false, false, false] rfl rfl (take_ofW HT_.out HW_.out (by kernel_rfl)) (fun _ _ _ h => h) (Or.inl ⟨by rfl, ?_⟩) hHeld ?_ ?_
            rotate_left
            ·rintro w' ⟨s0, s1, s2, s3, s4, s5, s6, s7, s8, s9, s10, s11, s12⟩
             go_simp
             with_reducible rfl
            rotate_left
            ·simp only [Act.put, List.setIfInBounds_toArray, List.set_cons_zero, List.set_cons_succ, i64_w, i32_w]
             rfl
            refine one_ (i := 8) (N := some 108) #[true, true, true, true, true, true, true, true, true, false, false, false, false] rfl rfl (one_of HT_.out (by kernel_rfl)) (by decide) (fun K hK => ?_)
            refine goes_ Tryd.func27 (by kernel_rfl) rfl #[.agg #[.slice Ao14 t516.length co14, .slice Ao18 t519.length co18, .int .i64 t522, .int .i64 t523, .int .i64 t524, .int .i64 t525, .int .i64 t526, .int .i64 t527, .int .i64 t528, .int .i64 t529, .int .i64 t530, .int .i64 t531, .int .i64 t532]] (by rfl) rfl rfl (by (try simp only [List.map_toArray, List.map_cons, List.map_nil]); first | done | rfl | (simp only [List.length_drop, List.length_take]; rfl)) ?_
            with_reducible refine (drumlineref5_Near.calls kj61 _ _ t516 _ _ t519 t522 t523 t524 t525 t526 t527 t528 t529 t530 t531 t532 t536 _ ?side1 ?side2 ?side3 ?side4 A78.out).mono ?_
            (case side1 => repeat (first | exact (Kd.R_reads' HO_534000.out).2.2 | (with_reducible refine Kd.C_alloc ?_ _) | (with_reducible refine Kd.C_drewN ?_ _) | (with_reducible refine Kd.C_drew ?_)))
            (case side2 => exact (Kd.R_reads' HO_534000.out).2.1)
            (case side3 => repeat (first | exact (Kd.R_reads' HO_534001.out).2.2 | (with_reducible refine Kd.C_alloc ?_ _) | (with_reducible refine Kd.C_drewN ?_ _) | (with_reducible refine Kd.C_drew ?_)))
            (case side4 => exact (Kd.R_reads' HO_534001.out).2.1)
            rintro e w96 ⟨rfl, hb⟩
            refine ⟨_, rfl, ?_⟩
            have n0_ := Aside0.mk (Kd.R_below (by (with_reducible repeat (first | apply Kd.R_alloc | apply Kd.R_drewN | apply Kd.R_drew)); exact HO_534000.out) hb)
            have n1_ := Aside0.mk (Kd.R_below (by (with_reducible repeat (first | apply Kd.R_alloc | apply Kd.R_drewN | apply Kd.R_drew)); exact HO_534001.out) hb)
            have n2_ := Aside0.mk (blk_below (g := gb513) (o := .cells #[.int .i64 a1_0, .int .i64 a1_1] 35 (0, 0)) (by (with_reducible repeat (first | refine blk_drewN ?_ _ | refine blk_drew ?_ | refine blk_alloc ?_ _)); exact BK513.out) hb)
            have n3_ := Aside0.mk (blk_below (g := gb514) (o := .cells #[.int .i64 a3_0, .int .i64 a3_1] 47 (0, 0)) (by (with_reducible repeat (first | refine blk_drewN ?_ _ | refine blk_drew ?_ | refine blk_alloc ?_ _)); exact BK514.out) hb)
            have n4_ := Aside0.mk (blk_below (g := gb533) (o := .cells #[.slice Ao14 t516.length co14, .slice Ao18 t519.length co18, .int .i64 t522, .int .i64 t523, .int .i64 t524, .int .i64 t525, .int .i64 t526, .int .i64 t527, .int .i64 t528, .int .i64 t529, .int .i64 t530, .int .i64 t531, .int .i64 t532] 25 (0, 0)) (by (with_reducible repeat (first | refine blk_drewN ?_ _ | refine blk_drew ?_ | refine blk_alloc ?_ _)); exact BK533.out) hb)
            have n5_ := Aside0.mk (below_step (by repeat (first | (with_reducible first | exact HB.out | apply below_alloc | apply pw_below_drewN | apply below_drew1 | refine below_set ?_ GE513.out | refine below_set ?_ GE514.out | refine below_set ?_ GE533.out) | exact HB.out)) hb)
            clear HO_534000
            clear HO_534001
            clear BK513
            clear BK514
            clear BK533
            clear HB
            have HO_534000 := n0_
            have HO_534001 := n1_
            have BK513 := n2_
            have BK514 := n3_
            have BK533 := n4_
            have HB := n5_
            clear n0_ n1_ n2_ n3_ n4_ n5_
            (try clear hb)
            (try clear hb2)
            (try clear hk)
            (try clear hi)
            refine hK.out _ _ ⟨(blk_cell BK533.out 0).trans rfl, (blk_cell BK533.out 1).trans rfl, (blk_cell BK533.out 2).trans rfl, (blk_cell BK533.out 3).trans rfl, (blk_cell BK533.out 4).trans rfl, (blk_cell BK533.out 5).trans rfl, (blk_cell BK533.out 6).trans rfl, (blk_cell BK533.out 7).trans rfl, (blk_cell BK533.out 8).trans rfl, (blk_cell BK533.out 9).trans rfl, (blk_cell BK533.out 10).trans rfl, (blk_cell BK533.out 11).trans rfl, (blk_cell BK533.out 12).trans rfl⟩ (fun hHeld => ?_)
            clear hK K
            refine norm_ (a' := ?_) ?_ ?_
            rotate_left
            ·show Act.put _ (some 108) _ = _
             simp only [Act.put, List.setIfInBounds_toArray, List.set_cons_zero, List.set_cons_succ, i64_w, i32_w]
             rfl
            refine pure_ (i := 9) (N := some 109) (v := ?_) (a' := ?_) #[true, true, true, true, true, true, true, true, true, true, false, false, false] rfl rfl (any_of HT_.out (by kernel_rfl)) (fun _ _ _ h => h) (Or.inl ⟨by rfl, ?_⟩) ?_ ?_
            rotate_left
            ·intro w'
             go_simp
             with_reducible rfl
            rotate_left
            ·simp only [Act.put, List.setIfInBounds_toArray, List.set_cons_zero, List.set_cons_succ, i64_w, i32_w]
             rfl
            refine pure_ (i := 10) (N := some 110) (v := ?_) (a' := ?_) #[true, true, true, true, true, true, true, true, true, true, true, false, false] rfl rfl (any_of HT_.out (by kernel_rfl)) (fun _ _ _ h => h) (Or.inl ⟨by rfl, ?_⟩) ?_ ?_
            rotate_left
            ·intro w'
             go_simp
             with_reducible rfl
            rotate_left
            ·simp only [Act.put, List.setIfInBounds_toArray, List.set_cons_zero, List.set_cons_succ, i64_w, i32_w]
             rfl
            refine pure_ (i := 11) (N := some 111) (v := ?_) (a' := ?_) #[true, true, true, true, true, true, true, true, true, true, true, true, false] rfl rfl (any_of HT_.out (by kernel_rfl)) (fun _ _ _ h => h) (Or.inl ⟨by rfl, ?_⟩) ?_ ?_
            rotate_left
            ·intro w'
             go_simp
             with_reducible rfl
            rotate_left
            ·simp only [Act.put, List.setIfInBounds_toArray, List.set_cons_zero, List.set_cons_succ, i64_w, i32_w]
             rfl
            refine pure_ (i := 12) (N := some 16) (v := ?_) (a' := ?_) #[true, true, true, true, true, true, true, true, true, true, true, true, true] rfl rfl (any_of HT_.out (by kernel_rfl)) (fun _ _ _ h => h) (Or.inl ⟨by rfl, ?_⟩) ?_ ?_
            rotate_left
            ·intro w'
             go_simp
             with_reducible rfl
            rotate_left
            ·simp only [Act.put, List.setIfInBounds_toArray, List.set_cons_zero, List.set_cons_succ, i64_w, i32_w]
             rfl
            refine done_ (done_of HT_.out (by kernel_rfl)) ?_
            have hnb97 := NB533_513.out
            have hnc97 := NB513_533.out
            have hnb98 := NB533_514.out
            have hnc98 := NB514_533.out
            obtain ⟨hcz99_0, hcz99_1, hcz99_2, hcz99_3, hcz99_4, hcz99_5, hcz99_6, hcz99_7, hcz99_8, hcz99_9, hcz99_10, hcz99_11, hcz99_12⟩ := cellsK13 BK533.out
            obtain ⟨hfz99_0, hfz99_1, hfz99_2, hfz99_3, hfz99_4, hfz99_5, hfz99_6, hfz99_7, hfz99_8, hfz99_9, hfz99_10, hfz99_11, hfz99_12⟩ := frozK13 BK533.out
            try go_wp2_with (first | ((with_reducible refine gate_callee (f := 28) rfl ?_); refine goesL_ (some 120) rfl rfl Tryd.func28 (by kernel_rfl) rfl #[.int .i64 a3_0, .int .i64 7, .int .i64 t522, .int .i64 (wrap64 (a1_0 + a2)), .int .i64 (wrap64 ((ji77) + (Int.tmod (wrap64 (a4)) (wrap64 (t522 - t536)))))] rfl (by (try simp only [List.map_toArray, List.map_cons, List.map_nil]); first | done | (simp only [hji77]; rfl) | rfl | (simp only [List.length_drop, List.length_take]; rfl)) ?_; (with_reducible refine (clock_Reading.calls a3_0 7 t522 (wrap64 (a1_0 + a2)) (wrap64 ((ji77) + (Int.tmod (wrap64 (a4)) (wrap64 (t522 - t536))))) t537 true _ A80.out).mono ?_); rintro e w' ⟨rfl, ⟨nd, rfl⟩⟩; refine ⟨_, rfl, ?_⟩) | ((with_reducible refine gate_callee (f := 28) rfl ?_); refine goesL_ (some 131) rfl rfl Tryd.func28 (by kernel_rfl) rfl #[.int .i64 a3_1, .int .i64 7, .int .i64 t522, .int .i64 (wrap64 (a1_1 + a2)), .int .i64 (wrap64 ((ji77) + (Int.tmod (wrap64 (a4)) (wrap64 (t522 - t536)))))] rfl (by (try simp only [List.map_toArray, List.map_cons, List.map_nil]); first | done | (simp only [hji77]; rfl) | rfl | (simp only [List.length_drop, List.length_take]; rfl)) ?_; (with_reducible refine (clock_Reading.calls a3_1 7 t522 (wrap64 (a1_1 + a2)) (wrap64 ((ji77) + (Int.tmod (wrap64 (a4)) (wrap64 (t522 - t536))))) t539 true _ A81.out).mono ?_); rintro e w' ⟨rfl, ⟨nd, rfl⟩⟩; refine ⟨_, rfl, ?_⟩) | (go_at_call 29; (with_reducible refine (bounds_Tick.calls kj61 _ _ t516 _ _ t519 t522 t523 t524 t525 t526 t527 t528 t529 t530 t531 t532 t541 _ ?side1 ?side2 ?side3 ?side4 A84.out).mono ?_); (case side1 => repeat (first | exact (Kd.R_reads' HO_534000.out).2.2 | (with_reducible refine Kd.C_alloc ?_ _) | (with_reducible refine Kd.C_drewN ?_ _) | (with_reducible refine Kd.C_drew ?_))); (case side2 => exact (Kd.R_reads' HO_534000.out).2.1); (case side3 => repeat (first | exact (Kd.R_reads' HO_534001.out).2.2 | (with_reducible refine Kd.C_alloc ?_ _) | (with_reducible refine Kd.C_drewN ?_ _) | (with_reducible refine Kd.C_drew ?_))); (case side4 => exact (Kd.R_reads' HO_534001.out).2.1); rintro e w100 ⟨rfl, hb⟩; have n0_ := Aside0.mk (Kd.R_below (by (with_reducible repeat (first | apply Kd.R_alloc | apply Kd.R_drewN | apply Kd.R_drew)); exact HO_534000.out) hb); have n1_ := Aside0.mk (Kd.R_below (by (with_reducible repeat (first | apply Kd.R_alloc | apply Kd.R_drewN | apply Kd.R_drew)); exact HO_534001.out) hb); have n2_ := Aside0.mk (blk_below (g := gb513) (o := .cells #[.int .i64 a1_0, .int .i64 a1_1] 35 (0, 0)) (by (with_reducible repeat (first | refine blk_drewN ?_ _ | refine blk_drew ?_ | refine blk_alloc ?_ _)); exact BK513.out) hb); have n3_ := Aside0.mk (blk_below (g := gb514) (o := .cells #[.int .i64 a3_0, .int .i64 a3_1] 47 (0, 0)) (by (with_reducible repeat (first | refine blk_drewN ?_ _ | refine blk_drew ?_ | refine blk_alloc ?_ _)); exact BK514.out) hb); have n4_ := Aside0.mk (blk_below (g := gb533) (o := .cells #[.slice Ao14 t516.length co14, .slice Ao18 t519.length co18, .int .i64 t522, .int .i64 t523, .int .i64 t524, .int .i64 t525, .int .i64 t526, .int .i64 t527, .int .i64 t528, .int .i64 t529, .int .i64 t530, .int .i64 t531, .int .i64 t532] 25 (0, 0)) (by (with_reducible repeat (first | refine blk_drewN ?_ _ | refine blk_drew ?_ | refine blk_alloc ?_ _)); exact BK533.out) hb); have n5_ := Aside0.mk (below_step (by repeat (first | (with_reducible first | exact HB.out | apply below_alloc | apply pw_below_drewN | apply below_drew1 | refine below_set ?_ GE513.out | refine below_set ?_ GE514.out | refine below_set ?_ GE533.out) | exact HB.out)) hb); clear HO_534000; clear HO_534001; clear BK513; clear BK514; clear BK533; clear HB; have HO_534000 := n0_; have HO_534001 := n1_; have BK513 := n2_; have BK514 := n3_; have BK533 := n4_; have HB := n5_; clear n0_ n1_ n2_ n3_ n4_ n5_; (try clear hb); (try clear hb2); (try clear hk); (try clear hi)))
            go_ret
            exact ⟨by first | rfl | (simp [errW_none, errW_some] <;> rfl) | (simp only [← hji77]; first | rfl | (simp [errW_none, errW_some] <;> rfl)) | (simp [*, errW_none, errW_some] <;> rfl), by repeat (first | (with_reducible first | exact HB.out | apply below_alloc | apply pw_below_drewN | apply below_drew1 | refine below_set ?_ GE513.out | refine below_set ?_ GE514.out | refine below_set ?_ GE533.out) | exact HB.out)⟩
          ·replace c83 := Bool.eq_false_iff.mpr c83
           subst c83
           have H1 : (some false) = some r := by rw [if_neg (show ¬ (false = true) by decide)] at H; exact H
           clear H
           have H := H1
           clear H1
           obtain rfl := Option.some.inj H
           try go_wp2
           have n0_ := Aside0.mk (Kd.R_drew HO_534000.out)
           have n1_ := Aside0.mk (Kd.R_drew HO_534001.out)
           have n2_ := Aside0.mk (blk_drew BK513.out)
           have n3_ := Aside0.mk (blk_drew BK514.out)
           have n4_ := Aside0.mk (blk_drew BK533.out)
           have n5_ := Aside0.mk (below_drew1 HB.out)
           clear HO_534000
           clear HO_534001
           clear BK513
           clear BK514
           clear BK533
           clear HB
           have HO_534000 := n0_
           have HO_534001 := n1_
           have BK513 := n2_
           have BK514 := n3_
           have BK533 := n4_
           have HB := n5_
           clear n0_ n1_ n2_ n3_ n4_ n5_
           refine start_ (n := 13) (S := fun w' => w'.cell? ⟨gb533, 0, none⟩ = some (.slice Ao14 t516.length co14) ∧ w'.cell? ⟨gb533, 1, none⟩ = some (.slice Ao18 t519.length co18) ∧ w'.cell? ⟨gb533, 2, none⟩ = some (.int .i64 t522) ∧ w'.cell? ⟨gb533, 3, none⟩ = some (.int .i64 t523) ∧ w'.cell? ⟨gb533, 4, none⟩ = some (.int .i64 t524) ∧ w'.cell? ⟨gb533, 5, none⟩ = some (.int .i64 t525) ∧ w'.cell? ⟨gb533, 6, none⟩ = some (.int .i64 t526) ∧ w'.cell? ⟨gb533, 7, none⟩ = some (.int .i64 t527) ∧ w'.cell? ⟨gb533, 8, none⟩ = some (.int .i64 t528) ∧ w'.cell? ⟨gb533, 9, none⟩ = some (.int .i64 t529) ∧ w'.cell? ⟨gb533, 10, none⟩ = some (.int .i64 t530) ∧ w'.cell? ⟨gb533, 11, none⟩ = some (.int .i64 t531) ∧ w'.cell? ⟨gb533, 12, none⟩ = some (.int .i64 t532)) (ds := []) #[false, false, false, false, false, false, false, false, false, false, false, false, false] (by kernel_rfl) rfl rfl ⟨(blk_cell BK533.out 0).trans rfl, (blk_cell BK533.out 1).trans rfl, (blk_cell BK533.out 2).trans rfl, (blk_cell BK533.out 3).trans rfl, (blk_cell BK533.out 4).trans rfl, (blk_cell BK533.out 5).trans rfl, (blk_cell BK533.out 6).trans rfl, (blk_cell BK533.out 7).trans rfl, (blk_cell BK533.out 8).trans rfl, (blk_cell BK533.out 9).trans rfl, (blk_cell BK533.out 10).trans rfl, (blk_cell BK533.out 11).trans rfl, (blk_cell BK533.out 12).trans rfl⟩ (fun hHeld => ?_); refine with_tabW drumlinelaw8_ClockTick.tab10 drumlinelaw8_ClockTick.bits10 (fun HT_ HW_ => ?_)
           generalize wc.drew = w101 at HO_534000 HO_534001 BK513 BK514 BK533 HB hHeld ⊢
           refine pure_ (i := 0) (N := some 100) (v := ?_) (a' := ?_) #[true, false, false, false, false, false, false, false, false, false, false, false, false] rfl rfl (any_of HT_.out (by kernel_rfl)) (fun _ _ _ h => h) (Or.inl ⟨by rfl, ?_⟩) ?_ ?_
           rotate_left
           ·intro w'
            go_simp
            with_reducible rfl
           rotate_left
           ·simp only [Act.put, List.setIfInBounds_toArray, List.set_cons_zero, List.set_cons_succ, i64_w, i32_w]
            rfl
           refine pure_ (i := 1) (N := some 101) (v := ?_) (a' := ?_) #[true, true, false, false, false, false, false, false, false, false, false, false, false] rfl rfl (any_of HT_.out (by kernel_rfl)) (fun _ _ _ h => h) (Or.inl ⟨by rfl, ?_⟩) ?_ ?_
           rotate_left
           ·intro w'
            go_simp
            with_reducible rfl
           rotate_left
           ·simp only [Act.put, List.setIfInBounds_toArray, List.set_cons_zero, List.set_cons_succ, i64_w, i32_w]
            rfl
           refine pure_ (i := 2) (N := some 102) (v := ?_) (a' := ?_) #[true, true, true, false, false, false, false, false, false, false, false, false, false] rfl rfl (any_of HT_.out (by kernel_rfl)) (fun _ _ _ h => h) (Or.inl ⟨by rfl, ?_⟩) ?_ ?_
           rotate_left
           ·intro w'
            go_simp
            with_reducible rfl
           rotate_left
           ·simp only [Act.put, List.setIfInBounds_toArray, List.set_cons_zero, List.set_cons_succ, i64_w, i32_w]
            rfl
           refine pure_ (i := 3) (N := some 103) (v := ?_) (a' := ?_) #[true, true, true, true, false, false, false, false, false, false, false, false, false] rfl rfl (any_of HT_.out (by kernel_rfl)) (fun _ _ _ h => h) (Or.inl ⟨by rfl, ?_⟩) ?_ ?_
           rotate_left
           ·intro w'
            go_simp
            with_reducible rfl
           rotate_left
           ·simp only [Act.put, List.setIfInBounds_toArray, List.set_cons_zero, List.set_cons_succ, i64_w, i32_w]
            rfl
           refine pure_ (i := 4) (N := some 104) (v := ?_) (a' := ?_) #[true, true, true, true, true, false, false, false, false, false, false, false, false] rfl rfl (any_of HT_.out (by kernel_rfl)) (fun _ _ _ h => h) (Or.inl ⟨by rfl, ?_⟩) ?_ ?_
           rotate_left
           ·intro w'
            go_simp
            with_reducible rfl
           rotate_left
           ·simp only [Act.put, List.setIfInBounds_toArray, List.set_cons_zero, List.set_cons_succ, i64_w, i32_w]
            rfl
           refine pure_ (i := 5) (N := some 105) (v := ?_) (a' := ?_) #[true, true, true, true, true, true, false, false, false, false, false, false, false] rfl rfl (any_of HT_.out (by kernel_rfl)) (fun _ _ _ h => h) (Or.inl ⟨by rfl, ?_⟩) ?_ ?_
           rotate_left
           ·intro w'
            go_simp
            with_reducible rfl
           rotate_left
           ·simp only [Act.put, List.setIfInBounds_toArray, List.set_cons_zero, List.set_cons_succ, i64_w, i32_w]
            rfl
           refine take_ (i := 6) (N := some 106) (v := ?_) (a' := ?_) #[true, true, true, true, true, true, true, false, false, false, false, false, false] rfl rfl (take_ofW HT_.out HW_.out (by kernel_rfl)) (fun _ _ _ h => h) (Or.inl ⟨by rfl, ?_⟩) hHeld ?_ ?_
           rotate_left
           ·rintro w' ⟨s0, s1, s2, s3, s4, s5, s6, s7, s8, s9, s10, s11, s12⟩
            go_simp
            with_reducible rfl
           rotate_left
           ·simp only [Act.put, List.setIfInBounds_toArray, List.set_cons_zero, List.set_cons_succ, i64_w, i32_w]
            rfl
           refine take_ (i := 7) (N := some 107) (v := ?_) (a' := ?_) #[true, true, true, true, true, true, true, true, false, false, false, false, false] rfl rfl (take_ofW HT_.out HW_.out (by kernel_rfl)) (fun _ _ _ h => h) (Or.inl ⟨by rfl, ?_⟩) hHeld ?_ ?_
           rotate_left
           ·rintro w' ⟨s0, s1, s2, s3, s4, s5, s6, s7, s8, s9, s10, s11, s12⟩
            go_simp
            with_reducible rfl
           rotate_left
           ·simp only [Act.put, List.setIfInBounds_toArray, List.set_cons_zero, List.set_cons_succ, i64_w, i32_w]
            rfl
           refine one_ (i := 8) (N := some 108) #[true, true, true, true, true, true, true, true, true, false, false, false, false] rfl rfl (one_of HT_.out (by kernel_rfl)) (by decide) (fun K hK => ?_)
           refine goes_ Tryd.func27 (by kernel_rfl) rfl #[.agg #[.slice Ao14 t516.length co14, .slice Ao18 t519.length co18, .int .i64 t522, .int .i64 t523, .int .i64 t524, .int .i64 t525, .int .i64 t526, .int .i64 t527, .int .i64 t528, .int .i64 t529, .int .i64 t530, .int .i64 t531, .int .i64 t532]] (by rfl) rfl rfl (by (try simp only [List.map_toArray, List.map_cons, List.map_nil]); first | done | rfl | (simp only [List.length_drop, List.length_take]; rfl)) ?_
           with_reducible refine (drumlineref5_Near.calls kj61 _ _ t516 _ _ t519 t522 t523 t524 t525 t526 t527 t528 t529 t530 t531 t532 t536 _ ?side1 ?side2 ?side3 ?side4 A78.out).mono ?_
           (case side1 => repeat (first | exact (Kd.R_reads' HO_534000.out).2.2 | (with_reducible refine Kd.C_alloc ?_ _) | (with_reducible refine Kd.C_drewN ?_ _) | (with_reducible refine Kd.C_drew ?_)))
           (case side2 => exact (Kd.R_reads' HO_534000.out).2.1)
           (case side3 => repeat (first | exact (Kd.R_reads' HO_534001.out).2.2 | (with_reducible refine Kd.C_alloc ?_ _) | (with_reducible refine Kd.C_drewN ?_ _) | (with_reducible refine Kd.C_drew ?_)))
           (case side4 => exact (Kd.R_reads' HO_534001.out).2.1)
           rintro e w102 ⟨rfl, hb⟩
           refine ⟨_, rfl, ?_⟩
           have n0_ := Aside0.mk (Kd.R_below (by (with_reducible repeat (first | apply Kd.R_alloc | apply Kd.R_drewN | apply Kd.R_drew)); exact HO_534000.out) hb)
           have n1_ := Aside0.mk (Kd.R_below (by (with_reducible repeat (first | apply Kd.R_alloc | apply Kd.R_drewN | apply Kd.R_drew)); exact HO_534001.out) hb)
           have n2_ := Aside0.mk (blk_below (g := gb513) (o := .cells #[.int .i64 a1_0, .int .i64 a1_1] 35 (0, 0)) (by (with_reducible repeat (first | refine blk_drewN ?_ _ | refine blk_drew ?_ | refine blk_alloc ?_ _)); exact BK513.out) hb)
           have n3_ := Aside0.mk (blk_below (g := gb514) (o := .cells #[.int .i64 a3_0, .int .i64 a3_1] 47 (0, 0)) (by (with_reducible repeat (first | refine blk_drewN ?_ _ | refine blk_drew ?_ | refine blk_alloc ?_ _)); exact BK514.out) hb)
           have n4_ := Aside0.mk (blk_below (g := gb533) (o := .cells #[.slice Ao14 t516.length co14, .slice Ao18 t519.length co18, .int .i64 t522, .int .i64 t523, .int .i64 t524, .int .i64 t525, .int .i64 t526, .int .i64 t527, .int .i64 t528, .int .i64 t529, .int .i64 t530, .int .i64 t531, .int .i64 t532] 25 (0, 0)) (by (with_reducible repeat (first | refine blk_drewN ?_ _ | refine blk_drew ?_ | refine blk_alloc ?_ _)); exact BK533.out) hb)
           have n5_ := Aside0.mk (below_step (by repeat (first | (with_reducible first | exact HB.out | apply below_alloc | apply pw_below_drewN | apply below_drew1 | refine below_set ?_ GE513.out | refine below_set ?_ GE514.out | refine below_set ?_ GE533.out) | exact HB.out)) hb)
           clear HO_534000
           clear HO_534001
           clear BK513
           clear BK514
           clear BK533
           clear HB
           have HO_534000 := n0_
           have HO_534001 := n1_
           have BK513 := n2_
           have BK514 := n3_
           have BK533 := n4_
           have HB := n5_
           clear n0_ n1_ n2_ n3_ n4_ n5_
           (try clear hb)
           (try clear hb2)
           (try clear hk)
           (try clear hi)
           refine hK.out _ _ ⟨(blk_cell BK533.out 0).trans rfl, (blk_cell BK533.out 1).trans rfl, (blk_cell BK533.out 2).trans rfl, (blk_cell BK533.out 3).trans rfl, (blk_cell BK533.out 4).trans rfl, (blk_cell BK533.out 5).trans rfl, (blk_cell BK533.out 6).trans rfl, (blk_cell BK533.out 7).trans rfl, (blk_cell BK533.out 8).trans rfl, (blk_cell BK533.out 9).trans rfl, (blk_cell BK533.out 10).trans rfl, (blk_cell BK533.out 11).trans rfl, (blk_cell BK533.out 12).trans rfl⟩ (fun hHeld => ?_)
           clear hK K
           refine norm_ (a' := ?_) ?_ ?_
           rotate_left
           ·show Act.put _ (some 108) _ = _
            simp only [Act.put, List.setIfInBounds_toArray, List.set_cons_zero, List.set_cons_succ, i64_w, i32_w]
            rfl
           refine pure_ (i := 9) (N := some 109) (v := ?_) (a' := ?_) #[true, true, true, true, true, true, true, true, true, true, false, false, false] rfl rfl (any_of HT_.out (by kernel_rfl)) (fun _ _ _ h => h) (Or.inl ⟨by rfl, ?_⟩) ?_ ?_
           rotate_left
           ·intro w'
            go_simp
            with_reducible rfl
           rotate_left
           ·simp only [Act.put, List.setIfInBounds_toArray, List.set_cons_zero, List.set_cons_succ, i64_w, i32_w]
            rfl
           refine pure_ (i := 10) (N := some 110) (v := ?_) (a' := ?_) #[true, true, true, true, true, true, true, true, true, true, true, false, false] rfl rfl (any_of HT_.out (by kernel_rfl)) (fun _ _ _ h => h) (Or.inl ⟨by rfl, ?_⟩) ?_ ?_
           rotate_left
           ·intro w'
            go_simp
            with_reducible rfl
           rotate_left
           ·simp only [Act.put, List.setIfInBounds_toArray, List.set_cons_zero, List.set_cons_succ, i64_w, i32_w]
            rfl
           refine pure_ (i := 11) (N := some 111) (v := ?_) (a' := ?_) #[true, true, true, true, true, true, true, true, true, true, true, true, false] rfl rfl (any_of HT_.out (by kernel_rfl)) (fun _ _ _ h => h) (Or.inl ⟨by rfl, ?_⟩) ?_ ?_
           rotate_left
           ·intro w'
            go_simp
            with_reducible rfl
           rotate_left
           ·simp only [Act.put, List.setIfInBounds_toArray, List.set_cons_zero, List.set_cons_succ, i64_w, i32_w]
            rfl
           refine pure_ (i := 12) (N := some 16) (v := ?_) (a' := ?_) #[true, true, true, true, true, true, true, true, true, true, true, true, true] rfl rfl (any_of HT_.out (by kernel_rfl)) (fun _ _ _ h => h) (Or.inl ⟨by rfl, ?_⟩) ?_ ?_
           rotate_left
           ·intro w'
            go_simp
            with_reducible rfl
           rotate_left
           ·simp only [Act.put, List.setIfInBounds_toArray, List.set_cons_zero, List.set_cons_succ, i64_w, i32_w]
            rfl
           refine done_ (done_of HT_.out (by kernel_rfl)) ?_
           have hnb103 := NB533_513.out
           have hnc103 := NB513_533.out
           have hnb104 := NB533_514.out
           have hnc104 := NB514_533.out
           obtain ⟨hcz105_0, hcz105_1, hcz105_2, hcz105_3, hcz105_4, hcz105_5, hcz105_6, hcz105_7, hcz105_8, hcz105_9, hcz105_10, hcz105_11, hcz105_12⟩ := cellsK13 BK533.out
           obtain ⟨hfz105_0, hfz105_1, hfz105_2, hfz105_3, hfz105_4, hfz105_5, hfz105_6, hfz105_7, hfz105_8, hfz105_9, hfz105_10, hfz105_11, hfz105_12⟩ := frozK13 BK533.out
           try go_wp2_with (first | ((with_reducible refine gate_callee (f := 28) rfl ?_); refine goesL_ (some 120) rfl rfl Tryd.func28 (by kernel_rfl) rfl #[.int .i64 a3_0, .int .i64 7, .int .i64 t522, .int .i64 (wrap64 (a1_0 + a2)), .int .i64 (wrap64 ((ji77) + (Int.tmod (wrap64 (a4)) (wrap64 (t522 - t536)))))] rfl (by (try simp only [List.map_toArray, List.map_cons, List.map_nil]); first | done | (simp only [hji77]; rfl) | rfl | (simp only [List.length_drop, List.length_take]; rfl)) ?_; (with_reducible refine (clock_Reading.calls a3_0 7 t522 (wrap64 (a1_0 + a2)) (wrap64 ((ji77) + (Int.tmod (wrap64 (a4)) (wrap64 (t522 - t536))))) t537 true _ A80.out).mono ?_); rintro e w' ⟨rfl, ⟨nd, rfl⟩⟩; refine ⟨_, rfl, ?_⟩) | ((with_reducible refine gate_callee (f := 28) rfl ?_); refine goesL_ (some 131) rfl rfl Tryd.func28 (by kernel_rfl) rfl #[.int .i64 a3_1, .int .i64 7, .int .i64 t522, .int .i64 (wrap64 (a1_1 + a2)), .int .i64 (wrap64 ((ji77) + (Int.tmod (wrap64 (a4)) (wrap64 (t522 - t536)))))] rfl (by (try simp only [List.map_toArray, List.map_cons, List.map_nil]); first | done | (simp only [hji77]; rfl) | rfl | (simp only [List.length_drop, List.length_take]; rfl)) ?_; (with_reducible refine (clock_Reading.calls a3_1 7 t522 (wrap64 (a1_1 + a2)) (wrap64 ((ji77) + (Int.tmod (wrap64 (a4)) (wrap64 (t522 - t536))))) t539 false _ A81.out).mono ?_); rintro e w' ⟨rfl, ⟨nd, rfl⟩⟩; refine ⟨_, rfl, ?_⟩))
           go_ret
           exact ⟨by first | rfl | (simp [errW_none, errW_some] <;> rfl) | (simp only [← hji77]; first | rfl | (simp [errW_none, errW_some] <;> rfl)) | (simp [*, errW_none, errW_some] <;> rfl), by repeat (first | (with_reducible first | exact HB.out | apply below_alloc | apply pw_below_drewN | apply below_drew1 | refine below_set ?_ GE513.out | refine below_set ?_ GE514.out | refine below_set ?_ GE533.out) | exact HB.out)⟩
         ·replace c82 := Bool.eq_false_iff.mpr c82
          subst c82
          have H1 : (some false) = some r := by rw [if_neg (show ¬ (false = true) by decide)] at H; exact H
          clear H
          have H := H1
          clear H1
          obtain rfl := Option.some.inj H
          try go_wp2
          have n0_ := Aside0.mk (Kd.R_drew HO_534000.out)
          have n1_ := Aside0.mk (Kd.R_drew HO_534001.out)
          have n2_ := Aside0.mk (blk_drew BK513.out)
          have n3_ := Aside0.mk (blk_drew BK514.out)
          have n4_ := Aside0.mk (blk_drew BK533.out)
          have n5_ := Aside0.mk (below_drew1 HB.out)
          clear HO_534000
          clear HO_534001
          clear BK513
          clear BK514
          clear BK533
          clear HB
          have HO_534000 := n0_
          have HO_534001 := n1_
          have BK513 := n2_
          have BK514 := n3_
          have BK533 := n4_
          have HB := n5_
          clear n0_ n1_ n2_ n3_ n4_ n5_
          refine start_ (n := 13) (S := fun w' => w'.cell? ⟨gb533, 0, none⟩ = some (.slice Ao14 t516.length co14) ∧ w'.cell? ⟨gb533, 1, none⟩ = some (.slice Ao18 t519.length co18) ∧ w'.cell? ⟨gb533, 2, none⟩ = some (.int .i64 t522) ∧ w'.cell? ⟨gb533, 3, none⟩ = some (.int .i64 t523) ∧ w'.cell? ⟨gb533, 4, none⟩ = some (.int .i64 t524) ∧ w'.cell? ⟨gb533, 5, none⟩ = some (.int .i64 t525) ∧ w'.cell? ⟨gb533, 6, none⟩ = some (.int .i64 t526) ∧ w'.cell? ⟨gb533, 7, none⟩ = some (.int .i64 t527) ∧ w'.cell? ⟨gb533, 8, none⟩ = some (.int .i64 t528) ∧ w'.cell? ⟨gb533, 9, none⟩ = some (.int .i64 t529) ∧ w'.cell? ⟨gb533, 10, none⟩ = some (.int .i64 t530) ∧ w'.cell? ⟨gb533, 11, none⟩ = some (.int .i64 t531) ∧ w'.cell? ⟨gb533, 12, none⟩ = some (.int .i64 t532)) (ds := []) #[false, false, false, false, false, false, false, false, false, false, false, false, false] (by kernel_rfl) rfl rfl ⟨(blk_cell BK533.out 0).trans rfl, (blk_cell BK533.out 1).trans rfl, (blk_cell BK533.out 2).trans rfl, (blk_cell BK533.out 3).trans rfl, (blk_cell BK533.out 4).trans rfl, (blk_cell BK533.out 5).trans rfl, (blk_cell BK533.out 6).trans rfl, (blk_cell BK533.out 7).trans rfl, (blk_cell BK533.out 8).trans rfl, (blk_cell BK533.out 9).trans rfl, (blk_cell BK533.out 10).trans rfl, (blk_cell BK533.out 11).trans rfl, (blk_cell BK533.out 12).trans rfl⟩ (fun hHeld => ?_); refine with_tabW drumlinelaw8_ClockTick.tab10 drumlinelaw8_ClockTick.bits10 (fun HT_ HW_ => ?_)
          generalize wc.drew = w106 at HO_534000 HO_534001 BK513 BK514 BK533 HB hHeld ⊢
          refine pure_ (i := 0) (N := some 100) (v := ?_) (a' := ?_) #[true, false, false, false, false, false, false, false, false, false, false, false, false] rfl rfl (any_of HT_.out (by kernel_rfl)) (fun _ _ _ h => h) (Or.inl ⟨by rfl, ?_⟩) ?_ ?_
          rotate_left
          ·intro w'
           go_simp
           with_reducible rfl
          rotate_left
          ·simp only [Act.put, List.setIfInBounds_toArray, List.set_cons_zero, List.set_cons_succ, i64_w, i32_w]
           rfl
          refine pure_ (i := 1) (N := some 101) (v := ?_) (a' := ?_) #[true, true, false, false, false, false, false, false, false, false, false, false, false] rfl rfl (any_of HT_.out (by kernel_rfl)) (fun _ _ _ h => h) (Or.inl ⟨by rfl, ?_⟩) ?_ ?_
          rotate_left
          ·intro w'
           go_simp
           with_reducible rfl
          rotate_left
          ·simp only [Act.put, List.setIfInBounds_toArray, List.set_cons_zero, List.set_cons_succ, i64_w, i32_w]
           rfl
          refine pure_ (i := 2) (N := some 102) (v := ?_) (a' := ?_) #[true, true, true, false, false, false, false, false, false, false, false, false, false] rfl rfl (any_of HT_.out (by kernel_rfl)) (fun _ _ _ h => h) (Or.inl ⟨by rfl, ?_⟩) ?_ ?_
          rotate_left
          ·intro w'
           go_simp
           with_reducible rfl
          rotate_left
          ·simp only [Act.put, List.setIfInBounds_toArray, List.set_cons_zero, List.set_cons_succ, i64_w, i32_w]
           rfl
          refine pure_ (i := 3) (N := some 103) (v := ?_) (a' := ?_) #[true, true, true, true, false, false, false, false, false, false, false, false, false] rfl rfl (any_of HT_.out (by kernel_rfl)) (fun _ _ _ h => h) (Or.inl ⟨by rfl, ?_⟩) ?_ ?_
          rotate_left
          ·intro w'
           go_simp
           with_reducible rfl
          rotate_left
          ·simp only [Act.put, List.setIfInBounds_toArray, List.set_cons_zero, List.set_cons_succ, i64_w, i32_w]
           rfl
          refine pure_ (i := 4) (N := some 104) (v := ?_) (a' := ?_) #[true, true, true, true, true, false, false, false, false, false, false, false, false] rfl rfl (any_of HT_.out (by kernel_rfl)) (fun _ _ _ h => h) (Or.inl ⟨by rfl, ?_⟩) ?_ ?_
          rotate_left
          ·intro w'
           go_simp
           with_reducible rfl
          rotate_left
          ·simp only [Act.put, List.setIfInBounds_toArray, List.set_cons_zero, List.set_cons_succ, i64_w, i32_w]
           rfl
          refine pure_ (i := 5) (N := some 105) (v := ?_) (a' := ?_) #[true, true, true, true, true, true, false, false, false, false, false, false, false] rfl rfl (any_of HT_.out (by kernel_rfl)) (fun _ _ _ h => h) (Or.inl ⟨by rfl, ?_⟩) ?_ ?_
          rotate_left
          ·intro w'
           go_simp
           with_reducible rfl
          rotate_left
          ·simp only [Act.put, List.setIfInBounds_toArray, List.set_cons_zero, List.set_cons_succ, i64_w, i32_w]
           rfl
          refine take_ (i := 6) (N := some 106) (v := ?_) (a' := ?_) #[true, true, true, true, true, true, true, false, false, false, false, false, false] rfl rfl (take_ofW HT_.out HW_.out (by kernel_rfl)) (fun _ _ _ h => h) (Or.inl ⟨by rfl, ?_⟩) hHeld ?_ ?_
          rotate_left
          ·rintro w' ⟨s0, s1, s2, s3, s4, s5, s6, s7, s8, s9, s10, s11, s12⟩
           go_simp
           with_reducible rfl
          rotate_left
          ·simp only [Act.put, List.setIfInBounds_toArray, List.set_cons_zero, List.set_cons_succ, i64_w, i32_w]
           rfl
          refine take_ (i := 7) (N := some 107) (v := ?_) (a' := ?_) #[true, true, true, true, true, true, true, true, false, false, false, false, false] rfl rfl (take_ofW HT_.out HW_.out (by kernel_rfl)) (fun _ _ _ h => h) (Or.inl ⟨by rfl, ?_⟩) hHeld ?_ ?_
          rotate_left
          ·rintro w' ⟨s0, s1, s2, s3, s4, s5, s6, s7, s8, s9, s10, s11, s12⟩
           go_simp
           with_reducible rfl
          rotate_left
          ·simp only [Act.put, List.setIfInBounds_toArray, List.set_cons_zero, List.set_cons_succ, i64_w, i32_w]
           rfl
          refine one_ (i := 8) (N := some 108) #[true, true, true, true, true, true, true, true, true, false, false, false, false] rfl rfl (one_of HT_.out (by kernel_rfl)) (by decide) (fun K hK => ?_)
          refine goes_ Tryd.func27 (by kernel_rfl) rfl #[.agg #[.slice Ao14 t516.length co14, .slice Ao18 t519.length co18, .int .i64 t522, .int .i64 t523, .int .i64 t524, .int .i64 t525, .int .i64 t526, .int .i64 t527, .int .i64 t528, .int .i64 t529, .int .i64 t530, .int .i64 t531, .int .i64 t532]] (by rfl) rfl rfl (by (try simp only [List.map_toArray, List.map_cons, List.map_nil]); first | done | rfl | (simp only [List.length_drop, List.length_take]; rfl)) ?_
          with_reducible refine (drumlineref5_Near.calls kj61 _ _ t516 _ _ t519 t522 t523 t524 t525 t526 t527 t528 t529 t530 t531 t532 t536 _ ?side1 ?side2 ?side3 ?side4 A78.out).mono ?_
          (case side1 => repeat (first | exact (Kd.R_reads' HO_534000.out).2.2 | (with_reducible refine Kd.C_alloc ?_ _) | (with_reducible refine Kd.C_drewN ?_ _) | (with_reducible refine Kd.C_drew ?_)))
          (case side2 => exact (Kd.R_reads' HO_534000.out).2.1)
          (case side3 => repeat (first | exact (Kd.R_reads' HO_534001.out).2.2 | (with_reducible refine Kd.C_alloc ?_ _) | (with_reducible refine Kd.C_drewN ?_ _) | (with_reducible refine Kd.C_drew ?_)))
          (case side4 => exact (Kd.R_reads' HO_534001.out).2.1)
          rintro e w107 ⟨rfl, hb⟩
          refine ⟨_, rfl, ?_⟩
          have n0_ := Aside0.mk (Kd.R_below (by (with_reducible repeat (first | apply Kd.R_alloc | apply Kd.R_drewN | apply Kd.R_drew)); exact HO_534000.out) hb)
          have n1_ := Aside0.mk (Kd.R_below (by (with_reducible repeat (first | apply Kd.R_alloc | apply Kd.R_drewN | apply Kd.R_drew)); exact HO_534001.out) hb)
          have n2_ := Aside0.mk (blk_below (g := gb513) (o := .cells #[.int .i64 a1_0, .int .i64 a1_1] 35 (0, 0)) (by (with_reducible repeat (first | refine blk_drewN ?_ _ | refine blk_drew ?_ | refine blk_alloc ?_ _)); exact BK513.out) hb)
          have n3_ := Aside0.mk (blk_below (g := gb514) (o := .cells #[.int .i64 a3_0, .int .i64 a3_1] 47 (0, 0)) (by (with_reducible repeat (first | refine blk_drewN ?_ _ | refine blk_drew ?_ | refine blk_alloc ?_ _)); exact BK514.out) hb)
          have n4_ := Aside0.mk (blk_below (g := gb533) (o := .cells #[.slice Ao14 t516.length co14, .slice Ao18 t519.length co18, .int .i64 t522, .int .i64 t523, .int .i64 t524, .int .i64 t525, .int .i64 t526, .int .i64 t527, .int .i64 t528, .int .i64 t529, .int .i64 t530, .int .i64 t531, .int .i64 t532] 25 (0, 0)) (by (with_reducible repeat (first | refine blk_drewN ?_ _ | refine blk_drew ?_ | refine blk_alloc ?_ _)); exact BK533.out) hb)
          have n5_ := Aside0.mk (below_step (by repeat (first | (with_reducible first | exact HB.out | apply below_alloc | apply pw_below_drewN | apply below_drew1 | refine below_set ?_ GE513.out | refine below_set ?_ GE514.out | refine below_set ?_ GE533.out) | exact HB.out)) hb)
          clear HO_534000
          clear HO_534001
          clear BK513
          clear BK514
          clear BK533
          clear HB
          have HO_534000 := n0_
          have HO_534001 := n1_
          have BK513 := n2_
          have BK514 := n3_
          have BK533 := n4_
          have HB := n5_
          clear n0_ n1_ n2_ n3_ n4_ n5_
          (try clear hb)
          (try clear hb2)
          (try clear hk)
          (try clear hi)
          refine hK.out _ _ ⟨(blk_cell BK533.out 0).trans rfl, (blk_cell BK533.out 1).trans rfl, (blk_cell BK533.out 2).trans rfl, (blk_cell BK533.out 3).trans rfl, (blk_cell BK533.out 4).trans rfl, (blk_cell BK533.out 5).trans rfl, (blk_cell BK533.out 6).trans rfl, (blk_cell BK533.out 7).trans rfl, (blk_cell BK533.out 8).trans rfl, (blk_cell BK533.out 9).trans rfl, (blk_cell BK533.out 10).trans rfl, (blk_cell BK533.out 11).trans rfl, (blk_cell BK533.out 12).trans rfl⟩ (fun hHeld => ?_)
          clear hK K
          refine norm_ (a' := ?_) ?_ ?_
          rotate_left
          ·show Act.put _ (some 108) _ = _
           simp only [Act.put, List.setIfInBounds_toArray, List.set_cons_zero, List.set_cons_succ, i64_w, i32_w]
           rfl
          refine pure_ (i := 9) (N := some 109) (v := ?_) (a' := ?_) #[true, true, true, true, true, true, true, true, true, true, false, false, false] rfl rfl (any_of HT_.out (by kernel_rfl)) (fun _ _ _ h => h) (Or.inl ⟨by rfl, ?_⟩) ?_ ?_
          rotate_left
          ·intro w'
           go_simp
           with_reducible rfl
          rotate_left
          ·simp only [Act.put, List.setIfInBounds_toArray, List.set_cons_zero, List.set_cons_succ, i64_w, i32_w]
           rfl
          refine pure_ (i := 10) (N := some 110) (v := ?_) (a' := ?_) #[true, true, true, true, true, true, true, true, true, true, true, false, false] rfl rfl (any_of HT_.out (by kernel_rfl)) (fun _ _ _ h => h) (Or.inl ⟨by rfl, ?_⟩) ?_ ?_
          rotate_left
          ·intro w'
           go_simp
           with_reducible rfl
          rotate_left
          ·simp only [Act.put, List.setIfInBounds_toArray, List.set_cons_zero, List.set_cons_succ, i64_w, i32_w]
           rfl
          refine pure_ (i := 11) (N := some 111) (v := ?_) (a' := ?_) #[true, true, true, true, true, true, true, true, true, true, true, true, false] rfl rfl (any_of HT_.out (by kernel_rfl)) (fun _ _ _ h => h) (Or.inl ⟨by rfl, ?_⟩) ?_ ?_
          rotate_left
          ·intro w'
           go_simp
           with_reducible rfl
          rotate_left
          ·simp only [Act.put, List.setIfInBounds_toArray, List.set_cons_zero, List.set_cons_succ, i64_w, i32_w]
           rfl
          refine pure_ (i := 12) (N := some 16) (v := ?_) (a' := ?_) #[true, true, true, true, true, true, true, true, true, true, true, true, true] rfl rfl (any_of HT_.out (by kernel_rfl)) (fun _ _ _ h => h) (Or.inl ⟨by rfl, ?_⟩) ?_ ?_
          rotate_left
          ·intro w'
           go_simp
           with_reducible rfl
          rotate_left
          ·simp only [Act.put, List.setIfInBounds_toArray, List.set_cons_zero, List.set_cons_succ, i64_w, i32_w]
           rfl
          refine done_ (done_of HT_.out (by kernel_rfl)) ?_
          have hnb108 := NB533_513.out
          have hnc108 := NB513_533.out
          have hnb109 := NB533_514.out
          have hnc109 := NB514_533.out
          obtain ⟨hcz110_0, hcz110_1, hcz110_2, hcz110_3, hcz110_4, hcz110_5, hcz110_6, hcz110_7, hcz110_8, hcz110_9, hcz110_10, hcz110_11, hcz110_12⟩ := cellsK13 BK533.out
          obtain ⟨hfz110_0, hfz110_1, hfz110_2, hfz110_3, hfz110_4, hfz110_5, hfz110_6, hfz110_7, hfz110_8, hfz110_9, hfz110_10, hfz110_11, hfz110_12⟩ := frozK13 BK533.out
          try go_wp2_with (first | ((with_reducible refine gate_callee (f := 28) rfl ?_); refine goesL_ (some 120) rfl rfl Tryd.func28 (by kernel_rfl) rfl #[.int .i64 a3_0, .int .i64 7, .int .i64 t522, .int .i64 (wrap64 (a1_0 + a2)), .int .i64 (wrap64 ((ji77) + (Int.tmod (wrap64 (a4)) (wrap64 (t522 - t536)))))] rfl (by (try simp only [List.map_toArray, List.map_cons, List.map_nil]); first | done | (simp only [hji77]; rfl) | rfl | (simp only [List.length_drop, List.length_take]; rfl)) ?_; (with_reducible refine (clock_Reading.calls a3_0 7 t522 (wrap64 (a1_0 + a2)) (wrap64 ((ji77) + (Int.tmod (wrap64 (a4)) (wrap64 (t522 - t536))))) t537 false _ A80.out).mono ?_); rintro e w' ⟨rfl, ⟨nd, rfl⟩⟩; refine ⟨_, rfl, ?_⟩) | ((with_reducible refine gate_callee (f := 28) rfl ?_); refine goesL_ (some 131) rfl rfl Tryd.func28 (by kernel_rfl) rfl #[.int .i64 a3_1, .int .i64 7, .int .i64 t522, .int .i64 (wrap64 (a1_1 + a2)), .int .i64 (wrap64 ((ji77) + (Int.tmod (wrap64 (a4)) (wrap64 (t522 - t536)))))] rfl (by (try simp only [List.map_toArray, List.map_cons, List.map_nil]); first | done | (simp only [hji77]; rfl) | rfl | (simp only [List.length_drop, List.length_take]; rfl)) ?_; (with_reducible refine (clock_Reading.calls a3_1 7 t522 (wrap64 (a1_1 + a2)) (wrap64 ((ji77) + (Int.tmod (wrap64 (a4)) (wrap64 (t522 - t536))))) t539 t540 _ A81.out).mono ?_); rintro e w' ⟨rfl, ⟨nd, rfl⟩⟩; refine ⟨_, rfl, ?_⟩))
          go_ret
          exact ⟨by first | rfl | (simp [errW_none, errW_some] <;> rfl) | (simp only [← hji77]; first | rfl | (simp [errW_none, errW_some] <;> rfl)) | (simp [*, errW_none, errW_some] <;> rfl), by repeat (first | (with_reducible first | exact HB.out | apply below_alloc | apply pw_below_drewN | apply below_drew1 | refine below_set ?_ GE513.out | refine below_set ?_ GE514.out | refine below_set ?_ GE533.out) | exact HB.out)⟩
 ·replace c7 := Bool.eq_false_iff.mpr c7
  subst c7
  have H1 : (some false) = some r := by rw [if_neg (show ¬ (false = true) by decide)] at H; exact H
  clear H
  have H := H1
  clear H1
  obtain rfl := Option.some.inj H
  go_enter Tryd.func9, Tryd.ntmps9
  go_wp2_with (first | ((with_reducible refine gate_dst (N := 6) rfl ?_); refine box_event ?hg (N := 6) ?hd (cs := #[.int .i64 a1_0, .int .i64 a1_1]) (t := 35) ?hr ?_; (case hd => rfl); (case hg => rfl); (case hr => first | (go_simp; done) | (go_simp; rfl)); intro gb513 hg w111 hbox hb; have n0_ := Aside0.mk (below_step (by repeat (first | (with_reducible first | exact HB.out | apply below_alloc | apply pw_below_drewN | apply below_drew1) | exact HB.out)) hb); have n1_ := Aside0.mk (hbox); have n2_ := Aside0.mk ((by rw [hg]; exact (below_size (by repeat (first | (with_reducible first | exact HB.out | apply below_alloc | apply pw_below_drewN | apply below_drew1) | exact HB.out))) : w.heap.size ≤ gb513)); have n3_ := Aside0.mk ((by rw [hg]; exact (below_size (by repeat (first | (with_reducible first | exact HB.out | apply below_alloc | apply pw_below_drewN | apply below_drew1) | exact HB.out))) : w.heap.size ≤ gb513)); clear HB; have HB := n0_; have BK513 := n1_; have GW513 := n2_; have GE513 := n3_; clear n0_ n1_ n2_ n3_; clear hb hbox hg) | ((with_reducible refine gate_dst (N := 8) rfl ?_); refine box_event ?hg (N := 8) ?hd (cs := #[.int .i64 a3_0, .int .i64 a3_1]) (t := 47) ?hr ?_; (case hd => rfl); (case hg => rfl); (case hr => first | (go_simp; done) | (go_simp; rfl)); intro gb514 hg w112 hbox hb; have n0_ := Aside0.mk (blk_below (g := gb513) (o := .cells #[.int .i64 a1_0, .int .i64 a1_1] 35 (0, 0)) (by (with_reducible repeat (first | refine blk_drewN ?_ _ | refine blk_drew ?_ | refine blk_alloc ?_ _)); exact BK513.out) hb); have n1_ := Aside0.mk (below_step (by repeat (first | (with_reducible first | exact HB.out | apply below_alloc | apply pw_below_drewN | apply below_drew1 | refine below_set ?_ GE513.out) | exact HB.out)) hb); have n2_ := Aside0.mk (hbox); have n3_ := Aside0.mk ((by rw [hg]; exact (below_size (by repeat (first | (with_reducible first | exact HB.out | apply below_alloc | apply pw_below_drewN | apply below_drew1 | refine below_set ?_ GE513.out) | exact HB.out))) : w.heap.size ≤ gb514)); have n4_ := Aside0.mk ((by rw [hg]; exact (below_size (by repeat (first | (with_reducible first | exact HB.out | apply below_alloc | apply pw_below_drewN | apply below_drew1 | refine below_set ?_ GE513.out) | exact HB.out))) : w.heap.size ≤ gb514)); have n5_ := Aside0.mk ((by rw [hg]; exact Nat.ne_of_lt (blk_lt (g := gb513) (o := .cells #[.int .i64 a1_0, .int .i64 a1_1] 35 (0, 0)) (by (with_reducible repeat (first | refine blk_drewN ?_ _ | refine blk_drew ?_ | refine blk_alloc ?_ _)); exact BK513.out)) : gb513 ≠ gb514)); have n6_ := Aside0.mk ((by rw [hg]; exact Nat.ne_of_gt (blk_lt (g := gb513) (o := .cells #[.int .i64 a1_0, .int .i64 a1_1] 35 (0, 0)) (by (with_reducible repeat (first | refine blk_drewN ?_ _ | refine blk_drew ?_ | refine blk_alloc ?_ _)); exact BK513.out)) : gb514 ≠ gb513)); clear BK513; clear HB; have BK513 := n0_; have HB := n1_; have BK514 := n2_; have GW514 := n3_; have GE514 := n4_; have NB513_514 := n5_; have NB514_513 := n6_; clear n0_ n1_ n2_ n3_ n4_ n5_ n6_; clear hb hbox hg) | ((with_reducible refine gate_callee (f := 21) rfl ?_); refine goesL_ (some 21) rfl rfl Tryd.func21 (by kernel_rfl) rfl #[] rfl (by (try simp only [List.map_toArray, List.map_cons, List.map_nil]); first | done | rfl | (simp only [List.length_drop, List.length_take]; rfl)) ?_; (with_reducible refine (drumlinelaw8_alive.calls  false _ A6.out).mono ?_); rintro e w' ⟨rfl, ⟨nd, rfl⟩⟩; refine ⟨_, rfl, ?_⟩))
  go_ret
  exact ⟨by first | rfl | (simp [errW_none, errW_some] <;> rfl) | (simp [*, errW_none, errW_some] <;> rfl), by repeat (first | (with_reducible first | exact HB.out | apply below_alloc | apply pw_below_drewN | apply below_drew1 | refine below_set ?_ GE513.out | refine below_set ?_ GE514.out) | exact HB.out)⟩

end Go.Proofs.YtkhlndhleiaokaaDoor.MHo
