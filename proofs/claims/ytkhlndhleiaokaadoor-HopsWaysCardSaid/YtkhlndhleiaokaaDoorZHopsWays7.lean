/- Texts that HopsWays leans on, laid together by a program (wip/d/merge.py): MHox64, PuNet, PuNm, PuRem, PuHopsWays. -/
import Derived.Test.YtkhlndhleiaokaaDoorZHopsWays1
import Derived.Test.YtkhlndhleiaokaaDoorZHopsWays3
import Derived.Test.YtkhlndhleiaokaaDoorZHopsWays6
namespace Go.Proofs.YtkhlndhleiaokaaDoor.MHo
open Go.RowKit Go.Proofs.YtkhlndhleiaokaaDoorW.PrintWords Go.Proofs.YtkhlndhleiaokaaDoorW.PrintLast Go.Proofs.YtkhlndhleiaokaaDoorW.PrintMore
attribute [local go_sem] mp_u32s mp_u32m mp_u8s mp_u8m max2_int min2_int max_two min_two max_three min_three max_four min_four
set_option linter.unusedVariables false
set_option linter.unusedSimpArgs false
def drumlinelaw6_HopsWays.f (k : Nat) (a0 : Int) (a1 : Int) (a2 : Int) (a3 : Int) : Option (Bool) := (drumlinelaw6_alive.f k).bind fun t391 => (if t391 = true then ((drumlineref26_Made.f a0).bind fun bt392 => (if (bt392.1.length : Int) = 0 then (none) else ((hops_Dist.f k bt392.1 bt392.2.1 bt392.2.2.1 bt392.2.2.2.1 bt392.2.2.2.2.1 bt392.2.2.2.2.2.1 bt392.2.2.2.2.2.2.1 bt392.2.2.2.2.2.2.2.1 bt392.2.2.2.2.2.2.2.2.1 bt392.2.2.2.2.2.2.2.2.2.1 bt392.2.2.2.2.2.2.2.2.2.2.1 bt392.2.2.2.2.2.2.2.2.2.2.2.1 bt392.2.2.2.2.2.2.2.2.2.2.2.2 (Int.tmod (wrap64 (a1)) (bt392.1.length : Int)) (Int.tmod (wrap64 (a2)) (bt392.1.length : Int))).bind fun t410 => ((hops_Dist.f k bt392.1 bt392.2.1 bt392.2.2.1 bt392.2.2.2.1 bt392.2.2.2.2.1 bt392.2.2.2.2.2.1 bt392.2.2.2.2.2.2.1 bt392.2.2.2.2.2.2.2.1 bt392.2.2.2.2.2.2.2.2.1 bt392.2.2.2.2.2.2.2.2.2.1 bt392.2.2.2.2.2.2.2.2.2.2.1 bt392.2.2.2.2.2.2.2.2.2.2.2.1 bt392.2.2.2.2.2.2.2.2.2.2.2.2 (Int.tmod (wrap64 (a2)) (bt392.1.length : Int)) (Int.tmod (wrap64 (a1)) (bt392.1.length : Int))).bind fun t411 => (if t410 = t411 then ((hops_Dist.f k bt392.1 bt392.2.1 bt392.2.2.1 bt392.2.2.2.1 bt392.2.2.2.2.1 bt392.2.2.2.2.2.1 bt392.2.2.2.2.2.2.1 bt392.2.2.2.2.2.2.2.1 bt392.2.2.2.2.2.2.2.2.1 bt392.2.2.2.2.2.2.2.2.2.1 bt392.2.2.2.2.2.2.2.2.2.2.1 bt392.2.2.2.2.2.2.2.2.2.2.2.1 bt392.2.2.2.2.2.2.2.2.2.2.2.2 (Int.tmod (wrap64 (a1)) (bt392.1.length : Int)) (Int.tmod (wrap64 (a3)) (bt392.1.length : Int))).bind fun t412 => ((hops_Dist.f k bt392.1 bt392.2.1 bt392.2.2.1 bt392.2.2.2.1 bt392.2.2.2.2.1 bt392.2.2.2.2.2.1 bt392.2.2.2.2.2.2.1 bt392.2.2.2.2.2.2.2.1 bt392.2.2.2.2.2.2.2.2.1 bt392.2.2.2.2.2.2.2.2.2.1 bt392.2.2.2.2.2.2.2.2.2.2.1 bt392.2.2.2.2.2.2.2.2.2.2.2.1 bt392.2.2.2.2.2.2.2.2.2.2.2.2 (Int.tmod (wrap64 (a3)) (bt392.1.length : Int)) (Int.tmod (wrap64 (a2)) (bt392.1.length : Int))).bind fun t413 => (if t410 ≤ (wrap64 (t412 + t413)) then (if t410 ≥ 0 then ((hops_Width.f k bt392.1 bt392.2.1 bt392.2.2.1 bt392.2.2.2.1 bt392.2.2.2.2.1 bt392.2.2.2.2.2.1 bt392.2.2.2.2.2.2.1 bt392.2.2.2.2.2.2.2.1 bt392.2.2.2.2.2.2.2.2.1 bt392.2.2.2.2.2.2.2.2.2.1 bt392.2.2.2.2.2.2.2.2.2.2.1 bt392.2.2.2.2.2.2.2.2.2.2.2.1 bt392.2.2.2.2.2.2.2.2.2.2.2.2).bind fun t414 => (if t410 ≤ t414 then (if ((t410 == 0) == ((Int.tmod (wrap64 (a1)) (bt392.1.length : Int)) == (Int.tmod (wrap64 (a2)) (bt392.1.length : Int)))) = true then ((hops_Width.f k bt392.1 bt392.2.1 bt392.2.2.1 bt392.2.2.2.1 bt392.2.2.2.2.1 bt392.2.2.2.2.2.1 bt392.2.2.2.2.2.2.1 bt392.2.2.2.2.2.2.2.1 bt392.2.2.2.2.2.2.2.2.1 bt392.2.2.2.2.2.2.2.2.2.1 bt392.2.2.2.2.2.2.2.2.2.2.1 bt392.2.2.2.2.2.2.2.2.2.2.2.1 bt392.2.2.2.2.2.2.2.2.2.2.2.2).bind fun t415 => (some (decide (t415 < (bt392.1.length : Int))))) else (some false)) else (some false))) else (some false)) else (some false)))) else (some false)))))) else (some false))
theorem drumlinelaw6_HopsWays.mono : ∀ a0 a1 a2 a3 k, LeO (drumlinelaw6_HopsWays.f k a0 a1 a2 a3) (drumlinelaw6_HopsWays.f (k + 1) a0 a1 a2 a3) := by
 intro a0 a1 a2 a3 k
 unfold drumlinelaw6_HopsWays.f
 repeat' first
   | (with_reducible exact drumlinelaw6_alive.mono _)
   | (with_reducible exact hops_Dist.mono _ _ _ _ _ _ _ _ _ _ _ _ _ _ _ _)
   | (with_reducible exact hops_Width.mono _ _ _ _ _ _ _ _ _ _ _ _ _ _)
   | (with_reducible exact LeO.refl _)
   | (with_reducible exact LeO.none _)
   | (with_reducible refine LeO.ite ?_ ?_)
   | (with_reducible refine LeO.bind ?_ (fun _ => ?_))
   | exact drumlinelaw6_alive.mono _
   | exact hops_Dist.mono _ _ _ _ _ _ _ _ _ _ _ _ _ _ _ _
   | exact hops_Width.mono _ _ _ _ _ _ _ _ _ _ _ _ _ _
   | exact LeO.none _
   | refine LeO.ite ?_ ?_
   | refine LeO.bind ?_ (fun _ => ?_)
def drumlinelaw6_HopsWays.T4 : Bool × List (List Nat × List Nat) := (true, [([], []), ([0], [0]), ([], []), ([2], [2]), ([3], [3]), ([1, 4], [1, 4]), ([], []), ([6], [6]), ([], []), ([8], [8]), ([9], [9]), ([7, 10], [7, 10]), ([], []), ([12], [12]), ([], []), ([14], [14]), ([15], [15]), ([13, 16], [13, 16]), ([5, 0, 1, 2, 3, 4, 5], [5]), ([11, 18, 0, 1, 2, 3, 4, 5, 6, 7, 8, 9, 10, 11, 18], [11]), ([17, 19, 0, 1, 2, 3, 4, 5, 6, 7, 8, 9, 10, 11, 12, 13, 14, 15, 16, 17, 18, 19], [17])])
def drumlinelaw6_HopsWays.B4 : List Nat := [0, 1, 0, 4, 12, 31, 0, 64, 0, 256, 768, 1984, 0, 4096, 0, 16384, 49152, 126976, 63, 266239, 1048575]
theorem drumlinelaw6_HopsWays.tab4 : rtab .any (opsOf Tryd.f6 4) = drumlinelaw6_HopsWays.T4 := by kernel_rfl
theorem drumlinelaw6_HopsWays.bits4 : waitsOk drumlinelaw6_HopsWays.T4.2 drumlinelaw6_HopsWays.B4 = true := by kernel_rfl
def drumlinelaw6_HopsWays.T6 : Bool × List (List Nat × List Nat) := (true, [([], []), ([], []), ([], []), ([], []), ([1, 2, 3], [1, 2, 3]), ([0, 4], [0, 4]), ([5, 4], [5]), ([6], [6]), ([6], [6]), ([6], [6]), ([6], [6]), ([8, 9, 10, 6, 6], [6, 8, 9, 10]), ([6], [6]), ([6], [6]), ([6], [6]), ([12, 13, 14, 11, 6], [6, 12, 13, 14]), ([11, 15, 6], [6, 11, 15]), ([7, 16, 6], [6, 7, 16]), ([6, 17], [6, 17]), ([18, 15], [18]), ([19], [19]), ([20, 19], [19, 20]), ([19, 21], [19, 21]), ([22, 19], [22]), ([23], [23]), ([23], [23]), ([25, 23, 23], [23, 25]), ([24, 26, 23], [23, 24, 26]), ([23, 27], [23, 27]), ([28, 26], [28]), ([29], [29]), ([30, 29], [29, 30]), ([29], [29]), ([29], [29]), ([32, 33, 29], [29, 32, 33]), ([31, 34, 29], [29, 31, 34]), ([29, 35], [29, 35]), ([36, 29], [36]), ([37], [37]), ([38, 37, 37], [37, 38]), ([37], [37]), ([40, 37], [37, 40]), ([41, 37], [37, 41]), ([39, 42, 37], [37, 39, 42]), ([37, 43], [37, 43]), ([44, 39, 0, 1, 2, 3, 4, 5, 6, 7, 8, 9, 10, 11, 12, 13, 14, 15, 16, 17, 18, 19, 20, 21, 22, 23, 24, 25, 26, 27, 28, 29, 30, 31, 32, 33, 34, 35, 36, 37, 38, 39, 40, 41, 42, 43, 44], [44])])
def drumlinelaw6_HopsWays.B6 : List Nat := [0, 0, 0, 0, 14, 31, 63, 127, 127, 127, 127, 1919, 127, 127, 127, 32639, 65407, 131071, 262143, 524287, 1048575, 2097151, 4194303, 8388607, 16777215, 16777215, 50331647, 134217727, 268435455, 536870911, 1073741823, 2147483647, 1073741823, 1073741823, 13958643711, 34359738367, 68719476735, 137438953471, 274877906943, 549755813887, 274877906943, 1374389534719, 3573412790271, 8796093022207, 17592186044415, 35184372088831]
theorem drumlinelaw6_HopsWays.tab6 : rtab .any (opsOf Tryd.f6 6) = drumlinelaw6_HopsWays.T6 := by kernel_rfl
theorem drumlinelaw6_HopsWays.bits6 : waitsOk drumlinelaw6_HopsWays.T6.2 drumlinelaw6_HopsWays.B6 = true := by kernel_rfl
set_option maxHeartbeats 8000000 in
set_option maxRecDepth 100000 in
theorem drumlinelaw6_HopsWays.calls (k : Nat) (a0 : Int) (a1 : Int) (a2 : Int) (a3 : Int) (r : Bool) (w : World) (h : drumlinelaw6_HopsWays.f k a0 a1 a2 a3 = some r) (hr : r = true) :
  Calls Tryd.prog 6 #[.int .i64 a0, .int .u8 a1, .int .u8 a2, .int .u8 a3] w fun e w' => e = .returned (.bool r) ∧ Below w.heap.size w w' := by
 have hu25 := Tryd.underlying25
 have HB := Aside0.mk (Below.refl w.heap.size w)
 have H : ((drumlinelaw6_alive.f k).bind fun t391 => (if t391 = true then ((drumlineref26_Made.f a0).bind fun bt392 => (if (bt392.1.length : Int) = 0 then (none) else ((hops_Dist.f k bt392.1 bt392.2.1 bt392.2.2.1 bt392.2.2.2.1 bt392.2.2.2.2.1 bt392.2.2.2.2.2.1 bt392.2.2.2.2.2.2.1 bt392.2.2.2.2.2.2.2.1 bt392.2.2.2.2.2.2.2.2.1 bt392.2.2.2.2.2.2.2.2.2.1 bt392.2.2.2.2.2.2.2.2.2.2.1 bt392.2.2.2.2.2.2.2.2.2.2.2.1 bt392.2.2.2.2.2.2.2.2.2.2.2.2 (Int.tmod (wrap64 (a1)) (bt392.1.length : Int)) (Int.tmod (wrap64 (a2)) (bt392.1.length : Int))).bind fun t410 => ((hops_Dist.f k bt392.1 bt392.2.1 bt392.2.2.1 bt392.2.2.2.1 bt392.2.2.2.2.1 bt392.2.2.2.2.2.1 bt392.2.2.2.2.2.2.1 bt392.2.2.2.2.2.2.2.1 bt392.2.2.2.2.2.2.2.2.1 bt392.2.2.2.2.2.2.2.2.2.1 bt392.2.2.2.2.2.2.2.2.2.2.1 bt392.2.2.2.2.2.2.2.2.2.2.2.1 bt392.2.2.2.2.2.2.2.2.2.2.2.2 (Int.tmod (wrap64 (a2)) (bt392.1.length : Int)) (Int.tmod (wrap64 (a1)) (bt392.1.length : Int))).bind fun t411 => (if t410 = t411 then ((hops_Dist.f k bt392.1 bt392.2.1 bt392.2.2.1 bt392.2.2.2.1 bt392.2.2.2.2.1 bt392.2.2.2.2.2.1 bt392.2.2.2.2.2.2.1 bt392.2.2.2.2.2.2.2.1 bt392.2.2.2.2.2.2.2.2.1 bt392.2.2.2.2.2.2.2.2.2.1 bt392.2.2.2.2.2.2.2.2.2.2.1 bt392.2.2.2.2.2.2.2.2.2.2.2.1 bt392.2.2.2.2.2.2.2.2.2.2.2.2 (Int.tmod (wrap64 (a1)) (bt392.1.length : Int)) (Int.tmod (wrap64 (a3)) (bt392.1.length : Int))).bind fun t412 => ((hops_Dist.f k bt392.1 bt392.2.1 bt392.2.2.1 bt392.2.2.2.1 bt392.2.2.2.2.1 bt392.2.2.2.2.2.1 bt392.2.2.2.2.2.2.1 bt392.2.2.2.2.2.2.2.1 bt392.2.2.2.2.2.2.2.2.1 bt392.2.2.2.2.2.2.2.2.2.1 bt392.2.2.2.2.2.2.2.2.2.2.1 bt392.2.2.2.2.2.2.2.2.2.2.2.1 bt392.2.2.2.2.2.2.2.2.2.2.2.2 (Int.tmod (wrap64 (a3)) (bt392.1.length : Int)) (Int.tmod (wrap64 (a2)) (bt392.1.length : Int))).bind fun t413 => (if t410 ≤ (wrap64 (t412 + t413)) then (if t410 ≥ 0 then ((hops_Width.f k bt392.1 bt392.2.1 bt392.2.2.1 bt392.2.2.2.1 bt392.2.2.2.2.1 bt392.2.2.2.2.2.1 bt392.2.2.2.2.2.2.1 bt392.2.2.2.2.2.2.2.1 bt392.2.2.2.2.2.2.2.2.1 bt392.2.2.2.2.2.2.2.2.2.1 bt392.2.2.2.2.2.2.2.2.2.2.1 bt392.2.2.2.2.2.2.2.2.2.2.2.1 bt392.2.2.2.2.2.2.2.2.2.2.2.2).bind fun t414 => (if t410 ≤ t414 then (if ((t410 == 0) == ((Int.tmod (wrap64 (a1)) (bt392.1.length : Int)) == (Int.tmod (wrap64 (a2)) (bt392.1.length : Int)))) = true then ((hops_Width.f k bt392.1 bt392.2.1 bt392.2.2.1 bt392.2.2.2.1 bt392.2.2.2.2.1 bt392.2.2.2.2.2.1 bt392.2.2.2.2.2.2.1 bt392.2.2.2.2.2.2.2.1 bt392.2.2.2.2.2.2.2.2.1 bt392.2.2.2.2.2.2.2.2.2.1 bt392.2.2.2.2.2.2.2.2.2.2.1 bt392.2.2.2.2.2.2.2.2.2.2.2.1 bt392.2.2.2.2.2.2.2.2.2.2.2.2).bind fun t415 => (some (decide (t415 < (bt392.1.length : Int))))) else (some false)) else (some false))) else (some false)) else (some false)))) else (some false)))))) else (some false))) = some r := h
 clear h
 replace H := Option.bind_eq_some_iff.mp H
 obtain ⟨t391, A50, H⟩ := H
 replace H : (if t391 = true then ((drumlineref26_Made.f a0).bind fun bt392 => (if (bt392.1.length : Int) = 0 then (none) else ((hops_Dist.f k bt392.1 bt392.2.1 bt392.2.2.1 bt392.2.2.2.1 bt392.2.2.2.2.1 bt392.2.2.2.2.2.1 bt392.2.2.2.2.2.2.1 bt392.2.2.2.2.2.2.2.1 bt392.2.2.2.2.2.2.2.2.1 bt392.2.2.2.2.2.2.2.2.2.1 bt392.2.2.2.2.2.2.2.2.2.2.1 bt392.2.2.2.2.2.2.2.2.2.2.2.1 bt392.2.2.2.2.2.2.2.2.2.2.2.2 (Int.tmod (wrap64 (a1)) (bt392.1.length : Int)) (Int.tmod (wrap64 (a2)) (bt392.1.length : Int))).bind fun t410 => ((hops_Dist.f k bt392.1 bt392.2.1 bt392.2.2.1 bt392.2.2.2.1 bt392.2.2.2.2.1 bt392.2.2.2.2.2.1 bt392.2.2.2.2.2.2.1 bt392.2.2.2.2.2.2.2.1 bt392.2.2.2.2.2.2.2.2.1 bt392.2.2.2.2.2.2.2.2.2.1 bt392.2.2.2.2.2.2.2.2.2.2.1 bt392.2.2.2.2.2.2.2.2.2.2.2.1 bt392.2.2.2.2.2.2.2.2.2.2.2.2 (Int.tmod (wrap64 (a2)) (bt392.1.length : Int)) (Int.tmod (wrap64 (a1)) (bt392.1.length : Int))).bind fun t411 => (if t410 = t411 then ((hops_Dist.f k bt392.1 bt392.2.1 bt392.2.2.1 bt392.2.2.2.1 bt392.2.2.2.2.1 bt392.2.2.2.2.2.1 bt392.2.2.2.2.2.2.1 bt392.2.2.2.2.2.2.2.1 bt392.2.2.2.2.2.2.2.2.1 bt392.2.2.2.2.2.2.2.2.2.1 bt392.2.2.2.2.2.2.2.2.2.2.1 bt392.2.2.2.2.2.2.2.2.2.2.2.1 bt392.2.2.2.2.2.2.2.2.2.2.2.2 (Int.tmod (wrap64 (a1)) (bt392.1.length : Int)) (Int.tmod (wrap64 (a3)) (bt392.1.length : Int))).bind fun t412 => ((hops_Dist.f k bt392.1 bt392.2.1 bt392.2.2.1 bt392.2.2.2.1 bt392.2.2.2.2.1 bt392.2.2.2.2.2.1 bt392.2.2.2.2.2.2.1 bt392.2.2.2.2.2.2.2.1 bt392.2.2.2.2.2.2.2.2.1 bt392.2.2.2.2.2.2.2.2.2.1 bt392.2.2.2.2.2.2.2.2.2.2.1 bt392.2.2.2.2.2.2.2.2.2.2.2.1 bt392.2.2.2.2.2.2.2.2.2.2.2.2 (Int.tmod (wrap64 (a3)) (bt392.1.length : Int)) (Int.tmod (wrap64 (a2)) (bt392.1.length : Int))).bind fun t413 => (if t410 ≤ (wrap64 (t412 + t413)) then (if t410 ≥ 0 then ((hops_Width.f k bt392.1 bt392.2.1 bt392.2.2.1 bt392.2.2.2.1 bt392.2.2.2.2.1 bt392.2.2.2.2.2.1 bt392.2.2.2.2.2.2.1 bt392.2.2.2.2.2.2.2.1 bt392.2.2.2.2.2.2.2.2.1 bt392.2.2.2.2.2.2.2.2.2.1 bt392.2.2.2.2.2.2.2.2.2.2.1 bt392.2.2.2.2.2.2.2.2.2.2.2.1 bt392.2.2.2.2.2.2.2.2.2.2.2.2).bind fun t414 => (if t410 ≤ t414 then (if ((t410 == 0) == ((Int.tmod (wrap64 (a1)) (bt392.1.length : Int)) == (Int.tmod (wrap64 (a2)) (bt392.1.length : Int)))) = true then ((hops_Width.f k bt392.1 bt392.2.1 bt392.2.2.1 bt392.2.2.2.1 bt392.2.2.2.2.1 bt392.2.2.2.2.2.1 bt392.2.2.2.2.2.2.1 bt392.2.2.2.2.2.2.2.1 bt392.2.2.2.2.2.2.2.2.1 bt392.2.2.2.2.2.2.2.2.2.1 bt392.2.2.2.2.2.2.2.2.2.2.1 bt392.2.2.2.2.2.2.2.2.2.2.2.1 bt392.2.2.2.2.2.2.2.2.2.2.2.2).bind fun t415 => (some (decide (t415 < (bt392.1.length : Int))))) else (some false)) else (some false))) else (some false)) else (some false)))) else (some false)))))) else (some false)) = some r := H
 have A5 := Aside0.mk A50
 clear A50
 by_cases c6 : t391 = true
 ·subst c6
  have H1 : ((drumlineref26_Made.f a0).bind fun bt392 => (if (bt392.1.length : Int) = 0 then (none) else ((hops_Dist.f k bt392.1 bt392.2.1 bt392.2.2.1 bt392.2.2.2.1 bt392.2.2.2.2.1 bt392.2.2.2.2.2.1 bt392.2.2.2.2.2.2.1 bt392.2.2.2.2.2.2.2.1 bt392.2.2.2.2.2.2.2.2.1 bt392.2.2.2.2.2.2.2.2.2.1 bt392.2.2.2.2.2.2.2.2.2.2.1 bt392.2.2.2.2.2.2.2.2.2.2.2.1 bt392.2.2.2.2.2.2.2.2.2.2.2.2 (Int.tmod (wrap64 (a1)) (bt392.1.length : Int)) (Int.tmod (wrap64 (a2)) (bt392.1.length : Int))).bind fun t410 => ((hops_Dist.f k bt392.1 bt392.2.1 bt392.2.2.1 bt392.2.2.2.1 bt392.2.2.2.2.1 bt392.2.2.2.2.2.1 bt392.2.2.2.2.2.2.1 bt392.2.2.2.2.2.2.2.1 bt392.2.2.2.2.2.2.2.2.1 bt392.2.2.2.2.2.2.2.2.2.1 bt392.2.2.2.2.2.2.2.2.2.2.1 bt392.2.2.2.2.2.2.2.2.2.2.2.1 bt392.2.2.2.2.2.2.2.2.2.2.2.2 (Int.tmod (wrap64 (a2)) (bt392.1.length : Int)) (Int.tmod (wrap64 (a1)) (bt392.1.length : Int))).bind fun t411 => (if t410 = t411 then ((hops_Dist.f k bt392.1 bt392.2.1 bt392.2.2.1 bt392.2.2.2.1 bt392.2.2.2.2.1 bt392.2.2.2.2.2.1 bt392.2.2.2.2.2.2.1 bt392.2.2.2.2.2.2.2.1 bt392.2.2.2.2.2.2.2.2.1 bt392.2.2.2.2.2.2.2.2.2.1 bt392.2.2.2.2.2.2.2.2.2.2.1 bt392.2.2.2.2.2.2.2.2.2.2.2.1 bt392.2.2.2.2.2.2.2.2.2.2.2.2 (Int.tmod (wrap64 (a1)) (bt392.1.length : Int)) (Int.tmod (wrap64 (a3)) (bt392.1.length : Int))).bind fun t412 => ((hops_Dist.f k bt392.1 bt392.2.1 bt392.2.2.1 bt392.2.2.2.1 bt392.2.2.2.2.1 bt392.2.2.2.2.2.1 bt392.2.2.2.2.2.2.1 bt392.2.2.2.2.2.2.2.1 bt392.2.2.2.2.2.2.2.2.1 bt392.2.2.2.2.2.2.2.2.2.1 bt392.2.2.2.2.2.2.2.2.2.2.1 bt392.2.2.2.2.2.2.2.2.2.2.2.1 bt392.2.2.2.2.2.2.2.2.2.2.2.2 (Int.tmod (wrap64 (a3)) (bt392.1.length : Int)) (Int.tmod (wrap64 (a2)) (bt392.1.length : Int))).bind fun t413 => (if t410 ≤ (wrap64 (t412 + t413)) then (if t410 ≥ 0 then ((hops_Width.f k bt392.1 bt392.2.1 bt392.2.2.1 bt392.2.2.2.1 bt392.2.2.2.2.1 bt392.2.2.2.2.2.1 bt392.2.2.2.2.2.2.1 bt392.2.2.2.2.2.2.2.1 bt392.2.2.2.2.2.2.2.2.1 bt392.2.2.2.2.2.2.2.2.2.1 bt392.2.2.2.2.2.2.2.2.2.2.1 bt392.2.2.2.2.2.2.2.2.2.2.2.1 bt392.2.2.2.2.2.2.2.2.2.2.2.2).bind fun t414 => (if t410 ≤ t414 then (if ((t410 == 0) == ((Int.tmod (wrap64 (a1)) (bt392.1.length : Int)) == (Int.tmod (wrap64 (a2)) (bt392.1.length : Int)))) = true then ((hops_Width.f k bt392.1 bt392.2.1 bt392.2.2.1 bt392.2.2.2.1 bt392.2.2.2.2.1 bt392.2.2.2.2.2.1 bt392.2.2.2.2.2.2.1 bt392.2.2.2.2.2.2.2.1 bt392.2.2.2.2.2.2.2.2.1 bt392.2.2.2.2.2.2.2.2.2.1 bt392.2.2.2.2.2.2.2.2.2.2.1 bt392.2.2.2.2.2.2.2.2.2.2.2.1 bt392.2.2.2.2.2.2.2.2.2.2.2.2).bind fun t415 => (some (decide (t415 < (bt392.1.length : Int))))) else (some false)) else (some false))) else (some false)) else (some false)))) else (some false)))))) = some r := by rw [if_pos rfl] at H; exact H
  clear H
  have H := H1
  clear H1
  replace H := Option.bind_eq_some_iff.mp H
  obtain ⟨⟨t392, t395, t398, t399, t400, t401, t402, t403, t404, t405, t406, t407, t408⟩, A70, H⟩ := H
  replace H : (if (t392.length : Int) = 0 then (none) else ((hops_Dist.f k t392 t395 t398 t399 t400 t401 t402 t403 t404 t405 t406 t407 t408 (Int.tmod (wrap64 (a1)) (t392.length : Int)) (Int.tmod (wrap64 (a2)) (t392.length : Int))).bind fun t410 => ((hops_Dist.f k t392 t395 t398 t399 t400 t401 t402 t403 t404 t405 t406 t407 t408 (Int.tmod (wrap64 (a2)) (t392.length : Int)) (Int.tmod (wrap64 (a1)) (t392.length : Int))).bind fun t411 => (if t410 = t411 then ((hops_Dist.f k t392 t395 t398 t399 t400 t401 t402 t403 t404 t405 t406 t407 t408 (Int.tmod (wrap64 (a1)) (t392.length : Int)) (Int.tmod (wrap64 (a3)) (t392.length : Int))).bind fun t412 => ((hops_Dist.f k t392 t395 t398 t399 t400 t401 t402 t403 t404 t405 t406 t407 t408 (Int.tmod (wrap64 (a3)) (t392.length : Int)) (Int.tmod (wrap64 (a2)) (t392.length : Int))).bind fun t413 => (if t410 ≤ (wrap64 (t412 + t413)) then (if t410 ≥ 0 then ((hops_Width.f k t392 t395 t398 t399 t400 t401 t402 t403 t404 t405 t406 t407 t408).bind fun t414 => (if t410 ≤ t414 then (if ((t410 == 0) == ((Int.tmod (wrap64 (a1)) (t392.length : Int)) == (Int.tmod (wrap64 (a2)) (t392.length : Int)))) = true then ((hops_Width.f k t392 t395 t398 t399 t400 t401 t402 t403 t404 t405 t406 t407 t408).bind fun t415 => (some (decide (t415 < (t392.length : Int))))) else (some false)) else (some false))) else (some false)) else (some false)))) else (some false))))) = some r := H
  have A7 := Aside0.mk A70
  clear A70
  by_cases c8 : (t392.length : Int) = 0
  ·rw [if_pos c8] at H
   exact absurd H (by simp)
  ·rw [if_neg c8] at H
   have c8b0 : ((t392.length : Int) == 0) = false := beq_eq_false_iff_ne.mpr c8
   have c8b1 : ((t392.length : Int) != 0) = true := bne_iff_ne.mpr c8
   have c8b2 : ¬ (t392 = []) := fun h_ => c8 (by rw [h_]; rfl)
   replace H := Option.bind_eq_some_iff.mp H
   obtain ⟨t410, A90, H⟩ := H
   replace H : ((hops_Dist.f k t392 t395 t398 t399 t400 t401 t402 t403 t404 t405 t406 t407 t408 (Int.tmod (wrap64 (a2)) (t392.length : Int)) (Int.tmod (wrap64 (a1)) (t392.length : Int))).bind fun t411 => (if t410 = t411 then ((hops_Dist.f k t392 t395 t398 t399 t400 t401 t402 t403 t404 t405 t406 t407 t408 (Int.tmod (wrap64 (a1)) (t392.length : Int)) (Int.tmod (wrap64 (a3)) (t392.length : Int))).bind fun t412 => ((hops_Dist.f k t392 t395 t398 t399 t400 t401 t402 t403 t404 t405 t406 t407 t408 (Int.tmod (wrap64 (a3)) (t392.length : Int)) (Int.tmod (wrap64 (a2)) (t392.length : Int))).bind fun t413 => (if t410 ≤ (wrap64 (t412 + t413)) then (if t410 ≥ 0 then ((hops_Width.f k t392 t395 t398 t399 t400 t401 t402 t403 t404 t405 t406 t407 t408).bind fun t414 => (if t410 ≤ t414 then (if ((t410 == 0) == ((Int.tmod (wrap64 (a1)) (t392.length : Int)) == (Int.tmod (wrap64 (a2)) (t392.length : Int)))) = true then ((hops_Width.f k t392 t395 t398 t399 t400 t401 t402 t403 t404 t405 t406 t407 t408).bind fun t415 => (some (decide (t415 < (t392.length : Int))))) else (some false)) else (some false))) else (some false)) else (some false)))) else (some false))) = some r := H
   have A9 := Aside0.mk A90
   clear A90
   replace H := Option.bind_eq_some_iff.mp H
   obtain ⟨t411, A100, H⟩ := H
   replace H : (if t410 = t411 then ((hops_Dist.f k t392 t395 t398 t399 t400 t401 t402 t403 t404 t405 t406 t407 t408 (Int.tmod (wrap64 (a1)) (t392.length : Int)) (Int.tmod (wrap64 (a3)) (t392.length : Int))).bind fun t412 => ((hops_Dist.f k t392 t395 t398 t399 t400 t401 t402 t403 t404 t405 t406 t407 t408 (Int.tmod (wrap64 (a3)) (t392.length : Int)) (Int.tmod (wrap64 (a2)) (t392.length : Int))).bind fun t413 => (if t410 ≤ (wrap64 (t412 + t413)) then (if t410 ≥ 0 then ((hops_Width.f k t392 t395 t398 t399 t400 t401 t402 t403 t404 t405 t406 t407 t408).bind fun t414 => (if t410 ≤ t414 then (if ((t410 == 0) == ((Int.tmod (wrap64 (a1)) (t392.length : Int)) == (Int.tmod (wrap64 (a2)) (t392.length : Int)))) = true then ((hops_Width.f k t392 t395 t398 t399 t400 t401 t402 t403 t404 t405 t406 t407 t408).bind fun t415 => (some (decide (t415 < (t392.length : Int))))) else (some false)) else (some false))) else (some false)) else (some false)))) else (some false)) = some r := H
   have A10 := Aside0.mk A100
   clear A100
   by_cases c11 : t410 = t411
   ·rw [if_pos c11] at H
    have c11b0 : (t410 == t411) = true := beq_iff_eq.mpr c11
    have c11b1 : (t410 != t411) = false := bne_eq_false_iff_eq.mpr c11
    clear c11
    replace H := Option.bind_eq_some_iff.mp H
    obtain ⟨t412, A120, H⟩ := H
    replace H : ((hops_Dist.f k t392 t395 t398 t399 t400 t401 t402 t403 t404 t405 t406 t407 t408 (Int.tmod (wrap64 (a3)) (t392.length : Int)) (Int.tmod (wrap64 (a2)) (t392.length : Int))).bind fun t413 => (if t410 ≤ (wrap64 (t412 + t413)) then (if t410 ≥ 0 then ((hops_Width.f k t392 t395 t398 t399 t400 t401 t402 t403 t404 t405 t406 t407 t408).bind fun t414 => (if t410 ≤ t414 then (if ((t410 == 0) == ((Int.tmod (wrap64 (a1)) (t392.length : Int)) == (Int.tmod (wrap64 (a2)) (t392.length : Int)))) = true then ((hops_Width.f k t392 t395 t398 t399 t400 t401 t402 t403 t404 t405 t406 t407 t408).bind fun t415 => (some (decide (t415 < (t392.length : Int))))) else (some false)) else (some false))) else (some false)) else (some false))) = some r := H
    have A12 := Aside0.mk A120
    clear A120
    replace H := Option.bind_eq_some_iff.mp H
    obtain ⟨t413, A130, H⟩ := H
    replace H : (if t410 ≤ (wrap64 (t412 + t413)) then (if t410 ≥ 0 then ((hops_Width.f k t392 t395 t398 t399 t400 t401 t402 t403 t404 t405 t406 t407 t408).bind fun t414 => (if t410 ≤ t414 then (if ((t410 == 0) == ((Int.tmod (wrap64 (a1)) (t392.length : Int)) == (Int.tmod (wrap64 (a2)) (t392.length : Int)))) = true then ((hops_Width.f k t392 t395 t398 t399 t400 t401 t402 t403 t404 t405 t406 t407 t408).bind fun t415 => (some (decide (t415 < (t392.length : Int))))) else (some false)) else (some false))) else (some false)) else (some false)) = some r := H
    have A13 := Aside0.mk A130
    clear A130
    by_cases c14 : t410 ≤ (wrap64 (t412 + t413))
    ·rw [if_pos c14] at H
     have c14b0 : decide (t410 ≤ (wrap64 (t412 + t413))) = true := decide_eq_true c14
     clear c14
     by_cases c15 : t410 ≥ 0
     ·rw [if_pos c15] at H
      have c15b0 : decide (0 ≤ t410) = true := decide_eq_true c15
      clear c15
      replace H := Option.bind_eq_some_iff.mp H
      obtain ⟨t414, A160, H⟩ := H
      replace H : (if t410 ≤ t414 then (if ((t410 == 0) == ((Int.tmod (wrap64 (a1)) (t392.length : Int)) == (Int.tmod (wrap64 (a2)) (t392.length : Int)))) = true then ((hops_Width.f k t392 t395 t398 t399 t400 t401 t402 t403 t404 t405 t406 t407 t408).bind fun t415 => (some (decide (t415 < (t392.length : Int))))) else (some false)) else (some false)) = some r := H
      have A16 := Aside0.mk A160
      clear A160
      by_cases c17 : t410 ≤ t414
      ·rw [if_pos c17] at H
       have c17b0 : decide (t410 ≤ t414) = true := decide_eq_true c17
       clear c17
       by_cases c18 : ((t410 == 0) == ((Int.tmod (wrap64 (a1)) (t392.length : Int)) == (Int.tmod (wrap64 (a2)) (t392.length : Int)))) = true
       ·rw [if_pos c18] at H
        have c18b0 : ((t410 == 0) == ((Int.tmod (wrap64 (a1)) (t392.length : Int)) == (Int.tmod (wrap64 (a2)) (t392.length : Int)))) = true := c18
        (try (have c18b1 : decide ((t410 == 0) = ((Int.tmod (wrap64 (a1)) (t392.length : Int)) == (Int.tmod (wrap64 (a2)) (t392.length : Int)))) = true := by simpa using c18))
        (try (have c18b2 : ((t410 == 0) == ((Int.tmod (wrap64 (a1)) (t392.length : Int)) == (Int.tmod (wrap64 (a2)) (t392.length : Int)))) = true := by simpa using c18))
        clear c18
        replace H := Option.bind_eq_some_iff.mp H
        obtain ⟨t415, A190, H⟩ := H
        replace H : (some (decide (t415 < (t392.length : Int)))) = some r := H
        have A19 := Aside0.mk A190
        clear A190
        clear hr
        obtain rfl := Option.some.inj H
        go_enter Tryd.func6, Tryd.ntmps6
        try go_wp2_with (first | ((with_reducible refine gate_callee (f := 10) rfl ?_); refine goesL_ (some 14) rfl rfl Tryd.func10 (by kernel_rfl) rfl #[] rfl (by (try simp only [List.map_toArray, List.map_cons, List.map_nil]); first | done | rfl | (simp only [List.length_drop, List.length_take]; rfl)) ?_; (with_reducible refine (drumlinelaw6_alive.calls k  true _ A5.out).mono ?_); rintro e w20 ⟨rfl, hb⟩; refine ⟨_, rfl, ?_⟩; have n0_ := Aside0.mk (below_step (by repeat (first | (with_reducible first | exact HB.out | apply below_alloc | apply pw_below_drewN | apply below_drew1) | exact HB.out)) hb); clear HB; have HB := n0_; clear n0_; (try clear hb); (try clear hb2); (try clear hk); (try clear hi)) | ((with_reducible refine gate_callee (f := 20) rfl ?_); refine goesL_ (some 17) rfl rfl Tryd.func20 (by kernel_rfl) rfl #[.int .i64 a0] rfl (by (try simp only [List.map_toArray, List.map_cons, List.map_nil]); first | done | rfl | (simp only [List.length_drop, List.length_take]; rfl)) ?_; (with_reducible refine (drumlineref26_Made.calls a0 t392 t395 t398 t399 t400 t401 t402 t403 t404 t405 t406 t407 t408 _ A7.out).mono ?_); rintro e w21 ⟨v393, v396, rfl, ho0, ho1, hb⟩; refine ⟨_, rfl, ?_⟩; have n0_ := Aside0.mk (Kd.R_lower ho0 (below_size (by repeat (first | (with_reducible first | exact HB.out | apply below_alloc | apply pw_below_drewN | apply below_drew1) | exact HB.out)))); have n1_ := Aside0.mk (Kd.R_lower ho1 (below_size (by repeat (first | (with_reducible first | exact HB.out | apply below_alloc | apply pw_below_drewN | apply below_drew1) | exact HB.out)))); have n2_ := Aside0.mk (below_step (by repeat (first | (with_reducible first | exact HB.out | apply below_alloc | apply pw_below_drewN | apply below_drew1) | exact HB.out)) hb); clear HB; have HO394 := n0_; have HO397 := n1_; have HB := n2_; clear n0_ n1_ n2_; (try clear hb); (try clear hb2); (try clear hk); (try clear hi); (try clear ho0); (try clear ho1)) | ((with_reducible refine gate_dst (N := 9) rfl ?_); (try (refine gate_guard (by rfl) ?_; dsimp only)); refine box_event ?hg (N := 9) ?hd (cs := #[.slice none 0 0, .slice none 0 0, .int .i64 0, .int .i64 0, .int .i64 0, .int .i64 0, .int .i64 0, .int .i64 0, .int .i64 0, .int .i64 0, .int .i64 0, .int .i64 0, .int .i64 0]) (t := 25) ?hr ?_; (case hd => rfl); (case hg => rfl); (case hr => first | (go_simp; done) | (go_simp; rfl)); intro gb409 hg w22 hbox hb; have n0_ := Aside0.mk (Kd.R_below (by (with_reducible repeat (first | apply Kd.R_alloc | apply Kd.R_drewN | apply Kd.R_drew)); exact HO394.out) hb); have n1_ := Aside0.mk (Kd.R_below (by (with_reducible repeat (first | apply Kd.R_alloc | apply Kd.R_drewN | apply Kd.R_drew)); exact HO397.out) hb); have n2_ := Aside0.mk (below_step (by repeat (first | (with_reducible first | exact HB.out | apply below_alloc | apply pw_below_drewN | apply below_drew1) | exact HB.out)) hb); have n3_ := Aside0.mk (hbox); have n4_ := Aside0.mk ((by rw [hg]; exact (below_size (by repeat (first | (with_reducible first | exact HB.out | apply below_alloc | apply pw_below_drewN | apply below_drew1) | exact HB.out))) : w.heap.size ≤ gb409)); have n5_ := Aside0.mk ((by rw [hg]; exact (below_size (by repeat (first | (with_reducible first | exact HB.out | apply below_alloc | apply pw_below_drewN | apply below_drew1) | exact HB.out))) : w.heap.size ≤ gb409)); clear HO394; clear HO397; clear HB; have HO394 := n0_; have HO397 := n1_; have HB := n2_; have BK409 := n3_; have GW409 := n4_; have GE409 := n5_; clear n0_ n1_ n2_ n3_ n4_ n5_; clear hb hbox hg; obtain ⟨Ao23, co23, eo23⟩ := Kd.R_slice HO394.out; subst eo23; obtain ⟨hcz24_0, hcz24_1, hcz24_2, hcz24_3, hcz24_4, hcz24_5, hcz24_6, hcz24_7, hcz24_8, hcz24_9, hcz24_10, hcz24_11, hcz24_12⟩ := cellsK13 BK409.out; obtain ⟨hfz24_0, hfz24_1, hfz24_2, hfz24_3, hfz24_4, hfz24_5, hfz24_6, hfz24_7, hfz24_8, hfz24_9, hfz24_10, hfz24_11, hfz24_12⟩ := frozK13 BK409.out; obtain ⟨Ao25, co25, eo25⟩ := Kd.R_slice HO397.out; subst eo25))
        have n0_ : Aside0 (Kd.R k60 60 (((((((((((((w22.setCell ⟨gb409, 0, none⟩ (.slice Ao23 t392.length co23)).setCell ⟨gb409, 1, none⟩ (.slice Ao25 t395.length co25)).setCell ⟨gb409, 2, none⟩ (.int .i64 t398)).setCell ⟨gb409, 3, none⟩ (.int .i64 t399)).setCell ⟨gb409, 4, none⟩ (.int .i64 t400)).setCell ⟨gb409, 5, none⟩ (.int .i64 t401)).setCell ⟨gb409, 6, none⟩ (.int .i64 t402)).setCell ⟨gb409, 7, none⟩ (.int .i64 t403)).setCell ⟨gb409, 8, none⟩ (.int .i64 t404)).setCell ⟨gb409, 9, none⟩ (.int .i64 t405)).setCell ⟨gb409, 10, none⟩ (.int .i64 t406)).setCell ⟨gb409, 11, none⟩ (.int .i64 t407)).setCell ⟨gb409, 12, none⟩ (.int .i64 t408)) w.heap.size (fun _ => True) (.slice Ao23 t392.length co23) t392) := ⟨by (with_reducible repeat (first | apply Kd.R_alloc | apply Kd.R_drewN | apply Kd.R_drew)); exact Kd.R_mono (Kd.R_far (p := ⟨gb409, 12, none⟩) (Kd.R_far (p := ⟨gb409, 11, none⟩) (Kd.R_far (p := ⟨gb409, 10, none⟩) (Kd.R_far (p := ⟨gb409, 9, none⟩) (Kd.R_far (p := ⟨gb409, 8, none⟩) (Kd.R_far (p := ⟨gb409, 7, none⟩) (Kd.R_far (p := ⟨gb409, 6, none⟩) (Kd.R_far (p := ⟨gb409, 5, none⟩) (Kd.R_far (p := ⟨gb409, 4, none⟩) (Kd.R_far (p := ⟨gb409, 3, none⟩) (Kd.R_far (p := ⟨gb409, 2, none⟩) (Kd.R_far (p := ⟨gb409, 1, none⟩) (Kd.R_far (p := ⟨gb409, 0, none⟩) (Kd.R_types HO394.out BK409.out (by decide)) (fun _ hk => hk.2) (.slice Ao23 t392.length co23)) (fun _ hk => hk.2) (.slice Ao25 t395.length co25)) (fun _ hk => hk.2) (.int .i64 t398)) (fun _ hk => hk.2) (.int .i64 t399)) (fun _ hk => hk.2) (.int .i64 t400)) (fun _ hk => hk.2) (.int .i64 t401)) (fun _ hk => hk.2) (.int .i64 t402)) (fun _ hk => hk.2) (.int .i64 t403)) (fun _ hk => hk.2) (.int .i64 t404)) (fun _ hk => hk.2) (.int .i64 t405)) (fun _ hk => hk.2) (.int .i64 t406)) (fun _ hk => hk.2) (.int .i64 t407)) (fun _ hk => hk.2) (.int .i64 t408)) (fun _ hk => trivial)⟩
        have n1_ : Aside0 (Kd.R k37 37 (((((((((((((w22.setCell ⟨gb409, 0, none⟩ (.slice Ao23 t392.length co23)).setCell ⟨gb409, 1, none⟩ (.slice Ao25 t395.length co25)).setCell ⟨gb409, 2, none⟩ (.int .i64 t398)).setCell ⟨gb409, 3, none⟩ (.int .i64 t399)).setCell ⟨gb409, 4, none⟩ (.int .i64 t400)).setCell ⟨gb409, 5, none⟩ (.int .i64 t401)).setCell ⟨gb409, 6, none⟩ (.int .i64 t402)).setCell ⟨gb409, 7, none⟩ (.int .i64 t403)).setCell ⟨gb409, 8, none⟩ (.int .i64 t404)).setCell ⟨gb409, 9, none⟩ (.int .i64 t405)).setCell ⟨gb409, 10, none⟩ (.int .i64 t406)).setCell ⟨gb409, 11, none⟩ (.int .i64 t407)).setCell ⟨gb409, 12, none⟩ (.int .i64 t408)) w.heap.size (fun _ => True) (.slice Ao25 t395.length co25) t395) := ⟨by (with_reducible repeat (first | apply Kd.R_alloc | apply Kd.R_drewN | apply Kd.R_drew)); exact Kd.R_mono (Kd.R_far (p := ⟨gb409, 12, none⟩) (Kd.R_far (p := ⟨gb409, 11, none⟩) (Kd.R_far (p := ⟨gb409, 10, none⟩) (Kd.R_far (p := ⟨gb409, 9, none⟩) (Kd.R_far (p := ⟨gb409, 8, none⟩) (Kd.R_far (p := ⟨gb409, 7, none⟩) (Kd.R_far (p := ⟨gb409, 6, none⟩) (Kd.R_far (p := ⟨gb409, 5, none⟩) (Kd.R_far (p := ⟨gb409, 4, none⟩) (Kd.R_far (p := ⟨gb409, 3, none⟩) (Kd.R_far (p := ⟨gb409, 2, none⟩) (Kd.R_far (p := ⟨gb409, 1, none⟩) (Kd.R_far (p := ⟨gb409, 0, none⟩) (Kd.R_types HO397.out BK409.out (by decide)) (fun _ hk => hk.2) (.slice Ao23 t392.length co23)) (fun _ hk => hk.2) (.slice Ao25 t395.length co25)) (fun _ hk => hk.2) (.int .i64 t398)) (fun _ hk => hk.2) (.int .i64 t399)) (fun _ hk => hk.2) (.int .i64 t400)) (fun _ hk => hk.2) (.int .i64 t401)) (fun _ hk => hk.2) (.int .i64 t402)) (fun _ hk => hk.2) (.int .i64 t403)) (fun _ hk => hk.2) (.int .i64 t404)) (fun _ hk => hk.2) (.int .i64 t405)) (fun _ hk => hk.2) (.int .i64 t406)) (fun _ hk => hk.2) (.int .i64 t407)) (fun _ hk => hk.2) (.int .i64 t408)) (fun _ hk => trivial)⟩
        have n2_ : Aside0 ((((((((((((((w22.setCell ⟨gb409, 0, none⟩ (.slice Ao23 t392.length co23)).setCell ⟨gb409, 1, none⟩ (.slice Ao25 t395.length co25)).setCell ⟨gb409, 2, none⟩ (.int .i64 t398)).setCell ⟨gb409, 3, none⟩ (.int .i64 t399)).setCell ⟨gb409, 4, none⟩ (.int .i64 t400)).setCell ⟨gb409, 5, none⟩ (.int .i64 t401)).setCell ⟨gb409, 6, none⟩ (.int .i64 t402)).setCell ⟨gb409, 7, none⟩ (.int .i64 t403)).setCell ⟨gb409, 8, none⟩ (.int .i64 t404)).setCell ⟨gb409, 9, none⟩ (.int .i64 t405)).setCell ⟨gb409, 10, none⟩ (.int .i64 t406)).setCell ⟨gb409, 11, none⟩ (.int .i64 t407)).setCell ⟨gb409, 12, none⟩ (.int .i64 t408)).heap[gb409]? = some (.cells #[.slice Ao23 t392.length co23, .slice Ao25 t395.length co25, .int .i64 t398, .int .i64 t399, .int .i64 t400, .int .i64 t401, .int .i64 t402, .int .i64 t403, .int .i64 t404, .int .i64 t405, .int .i64 t406, .int .i64 t407, .int .i64 t408] 25 (0, 0))) := ⟨by (with_reducible repeat (first | refine blk_drewN ?_ _ | refine blk_drew ?_ | refine blk_alloc ?_ _)); refine blk_put (cs := #[.slice Ao23 t392.length co23, .slice Ao25 t395.length co25, .int .i64 t398, .int .i64 t399, .int .i64 t400, .int .i64 t401, .int .i64 t402, .int .i64 t403, .int .i64 t404, .int .i64 t405, .int .i64 t406, .int .i64 t407, .int .i64 0]) ?_ 12 _ rfl; (with_reducible repeat (first | refine blk_drewN ?_ _ | refine blk_drew ?_ | refine blk_alloc ?_ _)); refine blk_put (cs := #[.slice Ao23 t392.length co23, .slice Ao25 t395.length co25, .int .i64 t398, .int .i64 t399, .int .i64 t400, .int .i64 t401, .int .i64 t402, .int .i64 t403, .int .i64 t404, .int .i64 t405, .int .i64 t406, .int .i64 0, .int .i64 0]) ?_ 11 _ rfl; (with_reducible repeat (first | refine blk_drewN ?_ _ | refine blk_drew ?_ | refine blk_alloc ?_ _)); refine blk_put (cs := #[.slice Ao23 t392.length co23, .slice Ao25 t395.length co25, .int .i64 t398, .int .i64 t399, .int .i64 t400, .int .i64 t401, .int .i64 t402, .int .i64 t403, .int .i64 t404, .int .i64 t405, .int .i64 0, .int .i64 0, .int .i64 0]) ?_ 10 _ rfl; (with_reducible repeat (first | refine blk_drewN ?_ _ | refine blk_drew ?_ | refine blk_alloc ?_ _)); refine blk_put (cs := #[.slice Ao23 t392.length co23, .slice Ao25 t395.length co25, .int .i64 t398, .int .i64 t399, .int .i64 t400, .int .i64 t401, .int .i64 t402, .int .i64 t403, .int .i64 t404, .int .i64 0, .int .i64 0, .int .i64 0, .int .i64 0]) ?_ 9 _ rfl; (with_reducible repeat (first | refine blk_drewN ?_ _ | refine blk_drew ?_ | refine blk_alloc ?_ _)); refine blk_put (cs := #[.slice Ao23 t392.length co23, .slice Ao25 t395.length co25, .int .i64 t398, .int .i64 t399, .int .i64 t400, .int .i64 t401, .int .i64 t402, .int .i64 t403, .int .i64 0, .int .i64 0, .int .i64 0, .int .i64 0, .int .i64 0]) ?_ 8 _ rfl; (with_reducible repeat (first | refine blk_drewN ?_ _ | refine blk_drew ?_ | refine blk_alloc ?_ _)); refine blk_put (cs := #[.slice Ao23 t392.length co23, .slice Ao25 t395.length co25, .int .i64 t398, .int .i64 t399, .int .i64 t400, .int .i64 t401, .int .i64 t402, .int .i64 0, .int .i64 0, .int .i64 0, .int .i64 0, .int .i64 0, .int .i64 0]) ?_ 7 _ rfl; (with_reducible repeat (first | refine blk_drewN ?_ _ | refine blk_drew ?_ | refine blk_alloc ?_ _)); refine blk_put (cs := #[.slice Ao23 t392.length co23, .slice Ao25 t395.length co25, .int .i64 t398, .int .i64 t399, .int .i64 t400, .int .i64 t401, .int .i64 0, .int .i64 0, .int .i64 0, .int .i64 0, .int .i64 0, .int .i64 0, .int .i64 0]) ?_ 6 _ rfl; (with_reducible repeat (first | refine blk_drewN ?_ _ | refine blk_drew ?_ | refine blk_alloc ?_ _)); refine blk_put (cs := #[.slice Ao23 t392.length co23, .slice Ao25 t395.length co25, .int .i64 t398, .int .i64 t399, .int .i64 t400, .int .i64 0, .int .i64 0, .int .i64 0, .int .i64 0, .int .i64 0, .int .i64 0, .int .i64 0, .int .i64 0]) ?_ 5 _ rfl; (with_reducible repeat (first | refine blk_drewN ?_ _ | refine blk_drew ?_ | refine blk_alloc ?_ _)); refine blk_put (cs := #[.slice Ao23 t392.length co23, .slice Ao25 t395.length co25, .int .i64 t398, .int .i64 t399, .int .i64 0, .int .i64 0, .int .i64 0, .int .i64 0, .int .i64 0, .int .i64 0, .int .i64 0, .int .i64 0, .int .i64 0]) ?_ 4 _ rfl; (with_reducible repeat (first | refine blk_drewN ?_ _ | refine blk_drew ?_ | refine blk_alloc ?_ _)); refine blk_put (cs := #[.slice Ao23 t392.length co23, .slice Ao25 t395.length co25, .int .i64 t398, .int .i64 0, .int .i64 0, .int .i64 0, .int .i64 0, .int .i64 0, .int .i64 0, .int .i64 0, .int .i64 0, .int .i64 0, .int .i64 0]) ?_ 3 _ rfl; (with_reducible repeat (first | refine blk_drewN ?_ _ | refine blk_drew ?_ | refine blk_alloc ?_ _)); refine blk_put (cs := #[.slice Ao23 t392.length co23, .slice Ao25 t395.length co25, .int .i64 0, .int .i64 0, .int .i64 0, .int .i64 0, .int .i64 0, .int .i64 0, .int .i64 0, .int .i64 0, .int .i64 0, .int .i64 0, .int .i64 0]) ?_ 2 _ rfl; (with_reducible repeat (first | refine blk_drewN ?_ _ | refine blk_drew ?_ | refine blk_alloc ?_ _)); refine blk_put (cs := #[.slice Ao23 t392.length co23, .slice none 0 0, .int .i64 0, .int .i64 0, .int .i64 0, .int .i64 0, .int .i64 0, .int .i64 0, .int .i64 0, .int .i64 0, .int .i64 0, .int .i64 0, .int .i64 0]) ?_ 1 _ rfl; (with_reducible repeat (first | refine blk_drewN ?_ _ | refine blk_drew ?_ | refine blk_alloc ?_ _)); refine blk_put (cs := #[.slice none 0 0, .slice none 0 0, .int .i64 0, .int .i64 0, .int .i64 0, .int .i64 0, .int .i64 0, .int .i64 0, .int .i64 0, .int .i64 0, .int .i64 0, .int .i64 0, .int .i64 0]) ?_ 0 _ rfl; (with_reducible repeat (first | refine blk_drewN ?_ _ | refine blk_drew ?_ | refine blk_alloc ?_ _)); exact BK409.out⟩
        have n3_ : Aside0 (Below w.heap.size w (((((((((((((w22.setCell ⟨gb409, 0, none⟩ (.slice Ao23 t392.length co23)).setCell ⟨gb409, 1, none⟩ (.slice Ao25 t395.length co25)).setCell ⟨gb409, 2, none⟩ (.int .i64 t398)).setCell ⟨gb409, 3, none⟩ (.int .i64 t399)).setCell ⟨gb409, 4, none⟩ (.int .i64 t400)).setCell ⟨gb409, 5, none⟩ (.int .i64 t401)).setCell ⟨gb409, 6, none⟩ (.int .i64 t402)).setCell ⟨gb409, 7, none⟩ (.int .i64 t403)).setCell ⟨gb409, 8, none⟩ (.int .i64 t404)).setCell ⟨gb409, 9, none⟩ (.int .i64 t405)).setCell ⟨gb409, 10, none⟩ (.int .i64 t406)).setCell ⟨gb409, 11, none⟩ (.int .i64 t407)).setCell ⟨gb409, 12, none⟩ (.int .i64 t408))) := ⟨by repeat (first | (with_reducible first | exact HB.out | apply below_alloc | apply pw_below_drewN | apply below_drew1 | refine below_set ?_ GE409.out) | exact HB.out)⟩
        (try clear HO394)
        (try clear HO397)
        (try clear BK409)
        (try clear HB)
        generalize (((((((((((((w22.setCell ⟨gb409, 0, none⟩ (.slice Ao23 t392.length co23)).setCell ⟨gb409, 1, none⟩ (.slice Ao25 t395.length co25)).setCell ⟨gb409, 2, none⟩ (.int .i64 t398)).setCell ⟨gb409, 3, none⟩ (.int .i64 t399)).setCell ⟨gb409, 4, none⟩ (.int .i64 t400)).setCell ⟨gb409, 5, none⟩ (.int .i64 t401)).setCell ⟨gb409, 6, none⟩ (.int .i64 t402)).setCell ⟨gb409, 7, none⟩ (.int .i64 t403)).setCell ⟨gb409, 8, none⟩ (.int .i64 t404)).setCell ⟨gb409, 9, none⟩ (.int .i64 t405)).setCell ⟨gb409, 10, none⟩ (.int .i64 t406)).setCell ⟨gb409, 11, none⟩ (.int .i64 t407)).setCell ⟨gb409, 12, none⟩ (.int .i64 t408)) = w26 at n0_ n1_ n2_ n3_ ⊢
        have HO394 := n0_
        have HO397 := n1_
        have BK409 := n2_
        have HB := n3_
        clear n0_ n1_ n2_ n3_
        have n0_ := Aside0.mk (Kd.R_drew HO394.out)
        have n1_ := Aside0.mk (Kd.R_drew HO397.out)
        have n2_ := Aside0.mk (blk_drew BK409.out)
        have n3_ := Aside0.mk (below_drew1 HB.out)
        clear HO394
        clear HO397
        clear BK409
        clear HB
        have HO394 := n0_
        have HO397 := n1_
        have BK409 := n2_
        have HB := n3_
        clear n0_ n1_ n2_ n3_
        refine start_ (n := 21) (S := fun w' => w'.cell? ⟨gb409, 0, none⟩ = some (.slice Ao23 t392.length co23) ∧ w'.cell? ⟨gb409, 1, none⟩ = some (.slice Ao25 t395.length co25) ∧ w'.cell? ⟨gb409, 2, none⟩ = some (.int .i64 t398) ∧ w'.cell? ⟨gb409, 3, none⟩ = some (.int .i64 t399) ∧ w'.cell? ⟨gb409, 4, none⟩ = some (.int .i64 t400) ∧ w'.cell? ⟨gb409, 5, none⟩ = some (.int .i64 t401) ∧ w'.cell? ⟨gb409, 6, none⟩ = some (.int .i64 t402) ∧ w'.cell? ⟨gb409, 7, none⟩ = some (.int .i64 t403) ∧ w'.cell? ⟨gb409, 8, none⟩ = some (.int .i64 t404) ∧ w'.cell? ⟨gb409, 9, none⟩ = some (.int .i64 t405) ∧ w'.cell? ⟨gb409, 10, none⟩ = some (.int .i64 t406) ∧ w'.cell? ⟨gb409, 11, none⟩ = some (.int .i64 t407) ∧ w'.cell? ⟨gb409, 12, none⟩ = some (.int .i64 t408)) (ds := []) #[false, false, false, false, false, false, false, false, false, false, false, false, false, false, false, false, false, false, false, false, false] (by kernel_rfl) rfl rfl ⟨(blk_cell BK409.out 0).trans rfl, (blk_cell BK409.out 1).trans rfl, (blk_cell BK409.out 2).trans rfl, (blk_cell BK409.out 3).trans rfl, (blk_cell BK409.out 4).trans rfl, (blk_cell BK409.out 5).trans rfl, (blk_cell BK409.out 6).trans rfl, (blk_cell BK409.out 7).trans rfl, (blk_cell BK409.out 8).trans rfl, (blk_cell BK409.out 9).trans rfl, (blk_cell BK409.out 10).trans rfl, (blk_cell BK409.out 11).trans rfl, (blk_cell BK409.out 12).trans rfl⟩ (fun hHeld => ?_); refine with_tabW drumlinelaw6_HopsWays.tab4 drumlinelaw6_HopsWays.bits4 (fun HT_ HW_ => ?_)
        generalize w26.drew = w27 at HO394 HO397 BK409 HB hHeld ⊢
        refine pure_ (i := 0) (N := some 18) (v := ?_) (a' := ?_) #[true, false, false, false, false, false, false, false, false, false, false, false, false, false, false, false, false, false, false, false, false] rfl rfl (any_of HT_.out (by kernel_rfl)) (fun _ _ _ h => h) (Or.inl ⟨by rfl, ?_⟩) ?_ ?_
        rotate_left
        ·intro w'
         go_simp
         with_reducible rfl
        rotate_left
        ·simp only [Act.put, sAa, sBb, sCc, i64_w, i32_w]
         rfl
        refine pure_ (i := 1) (N := some 19) (v := ?_) (a' := ?_) #[true, true, false, false, false, false, false, false, false, false, false, false, false, false, false, false, false, false, false, false, false] rfl rfl (any_of HT_.out (by kernel_rfl)) (fun _ _ _ h => h) (Or.inl ⟨by rfl, ?_⟩) ?_ ?_
        rotate_left
        ·intro w'
         go_simp
         with_reducible rfl
        rotate_left
        ·simp only [Act.put, sAa, sBb, sCc, i64_w, i32_w]
         rfl
        refine pure_ (i := 2) (N := some 20) (v := ?_) (a' := ?_) #[true, true, true, false, false, false, false, false, false, false, false, false, false, false, false, false, false, false, false, false, false] rfl rfl (any_of HT_.out (by kernel_rfl)) (fun _ _ _ h => h) (Or.inl ⟨by rfl, ?_⟩) ?_ ?_
        rotate_left
        ·intro w'
         go_simp
         with_reducible rfl
        rotate_left
        ·simp only [Act.put, sAa, sBb, sCc, i64_w, i32_w]
         rfl
        refine pure_ (i := 6) (N := some 24) (v := ?_) (a' := ?_) #[true, true, true, false, false, false, true, false, false, false, false, false, false, false, false, false, false, false, false, false, false] rfl rfl (any_of HT_.out (by kernel_rfl)) (fun _ _ _ h => h) (Or.inl ⟨by rfl, ?_⟩) ?_ ?_
        rotate_left
        ·intro w'
         go_simp
         with_reducible rfl
        rotate_left
        ·simp only [Act.put, sAa, sBb, sCc, i64_w, i32_w]
         rfl
        refine pure_ (i := 7) (N := some 25) (v := ?_) (a' := ?_) #[true, true, true, false, false, false, true, true, false, false, false, false, false, false, false, false, false, false, false, false, false] rfl rfl (any_of HT_.out (by kernel_rfl)) (fun _ _ _ h => h) (Or.inl ⟨by rfl, ?_⟩) ?_ ?_
        rotate_left
        ·intro w'
         go_simp
         with_reducible rfl
        rotate_left
        ·simp only [Act.put, sAa, sBb, sCc, i64_w, i32_w]
         rfl
        refine pure_ (i := 8) (N := some 26) (v := ?_) (a' := ?_) #[true, true, true, false, false, false, true, true, true, false, false, false, false, false, false, false, false, false, false, false, false] rfl rfl (any_of HT_.out (by kernel_rfl)) (fun _ _ _ h => h) (Or.inl ⟨by rfl, ?_⟩) ?_ ?_
        rotate_left
        ·intro w'
         go_simp
         with_reducible rfl
        rotate_left
        ·simp only [Act.put, sAa, sBb, sCc, i64_w, i32_w]
         rfl
        refine pure_ (i := 12) (N := some 30) (v := ?_) (a' := ?_) #[true, true, true, false, false, false, true, true, true, false, false, false, true, false, false, false, false, false, false, false, false] rfl rfl (any_of HT_.out (by kernel_rfl)) (fun _ _ _ h => h) (Or.inl ⟨by rfl, ?_⟩) ?_ ?_
        rotate_left
        ·intro w'
         go_simp
         with_reducible rfl
        rotate_left
        ·simp only [Act.put, sAa, sBb, sCc, i64_w, i32_w]
         rfl
        refine pure_ (i := 13) (N := some 31) (v := ?_) (a' := ?_) #[true, true, true, false, false, false, true, true, true, false, false, false, true, true, false, false, false, false, false, false, false] rfl rfl (any_of HT_.out (by kernel_rfl)) (fun _ _ _ h => h) (Or.inl ⟨by rfl, ?_⟩) ?_ ?_
        rotate_left
        ·intro w'
         go_simp
         with_reducible rfl
        rotate_left
        ·simp only [Act.put, sAa, sBb, sCc, i64_w, i32_w]
         rfl
        refine pure_ (i := 14) (N := some 32) (v := ?_) (a' := ?_) #[true, true, true, false, false, false, true, true, true, false, false, false, true, true, true, false, false, false, false, false, false] rfl rfl (any_of HT_.out (by kernel_rfl)) (fun _ _ _ h => h) (Or.inl ⟨by rfl, ?_⟩) ?_ ?_
        rotate_left
        ·intro w'
         go_simp
         with_reducible rfl
        rotate_left
        ·simp only [Act.put, sAa, sBb, sCc, i64_w, i32_w]
         rfl
        refine take_ (i := 3) (N := some 21) (v := ?_) (a' := ?_) #[true, true, true, true, false, false, true, true, true, false, false, false, true, true, true, false, false, false, false, false, false] rfl rfl (take_ofW HT_.out HW_.out (by kernel_rfl)) (fun _ _ _ h => h) (Or.inl ⟨by rfl, ?_⟩) hHeld ?_ ?_
        rotate_left
        ·rintro w' ⟨s0, s1, s2, s3, s4, s5, s6, s7, s8, s9, s10, s11, s12⟩
         go_simp
         with_reducible rfl
        rotate_left
        ·simp only [Act.put, sAa, sBb, sCc, i64_w, i32_w]
         rfl
        refine pure_ (i := 4) (N := some 22) (v := ?_) (a' := ?_) #[true, true, true, true, true, false, true, true, true, false, false, false, true, true, true, false, false, false, false, false, false] rfl rfl (any_of HT_.out (by kernel_rfl)) (fun _ _ _ h => h) (Or.inl ⟨by rfl, ?_⟩) ?_ ?_
        rotate_left
        ·intro w'
         go_simp
         with_reducible rfl
        rotate_left
        ·simp only [Act.put, sAa, sBb, sCc, i64_w, i32_w]
         rfl
        refine pure_ (i := 5) (N := some 23) (v := ?_) (a' := ?_) #[true, true, true, true, true, true, true, true, true, false, false, false, true, true, true, false, false, false, false, false, false] rfl rfl (any_of HT_.out (by kernel_rfl)) (fun _ _ _ h => h) (Or.inl ⟨by rfl, ?_⟩) ?_ ?_
        rotate_left
        ·intro w'
         go_simp
         with_reducible rfl
        rotate_left
        ·simp only [Act.put, sAa, sBb, sCc, i64_w, i32_w]
         rfl
        refine pure_ (i := 18) (N := some 10) (v := ?_) (a' := ?_) #[true, true, true, true, true, true, true, true, true, false, false, false, true, true, true, false, false, false, true, false, false] rfl rfl (any_of HT_.out (by kernel_rfl)) (fun _ _ _ h => h) (Or.inl ⟨by rfl, ?_⟩) ?_ ?_
        rotate_left
        ·intro w'
         go_simp
         with_reducible rfl
        rotate_left
        ·simp only [Act.put, sAa, sBb, sCc, i64_w, i32_w]
         rfl
        refine take_ (i := 9) (N := some 27) (v := ?_) (a' := ?_) #[true, true, true, true, true, true, true, true, true, true, false, false, true, true, true, false, false, false, true, false, false] rfl rfl (take_ofW HT_.out HW_.out (by kernel_rfl)) (fun _ _ _ h => h) (Or.inl ⟨by rfl, ?_⟩) hHeld ?_ ?_
        rotate_left
        ·rintro w' ⟨s0, s1, s2, s3, s4, s5, s6, s7, s8, s9, s10, s11, s12⟩
         go_simp
         with_reducible rfl
        rotate_left
        ·simp only [Act.put, sAa, sBb, sCc, i64_w, i32_w]
         rfl
        refine pure_ (i := 10) (N := some 28) (v := ?_) (a' := ?_) #[true, true, true, true, true, true, true, true, true, true, true, false, true, true, true, false, false, false, true, false, false] rfl rfl (any_of HT_.out (by kernel_rfl)) (fun _ _ _ h => h) (Or.inl ⟨by rfl, ?_⟩) ?_ ?_
        rotate_left
        ·intro w'
         go_simp
         with_reducible rfl
        rotate_left
        ·simp only [Act.put, sAa, sBb, sCc, i64_w, i32_w]
         rfl
        refine pure_ (i := 11) (N := some 29) (v := ?_) (a' := ?_) #[true, true, true, true, true, true, true, true, true, true, true, true, true, true, true, false, false, false, true, false, false] rfl rfl (any_of HT_.out (by kernel_rfl)) (fun _ _ _ h => h) (Or.inl ⟨by rfl, ?_⟩) ?_ ?_
        rotate_left
        ·intro w'
         go_simp
         with_reducible rfl
        rotate_left
        ·simp only [Act.put, sAa, sBb, sCc, i64_w, i32_w]
         rfl
        refine pure_ (i := 19) (N := some 11) (v := ?_) (a' := ?_) #[true, true, true, true, true, true, true, true, true, true, true, true, true, true, true, false, false, false, true, true, false] rfl rfl (any_of HT_.out (by kernel_rfl)) (fun _ _ _ h => h) (Or.inl ⟨by rfl, ?_⟩) ?_ ?_
        rotate_left
        ·intro w'
         go_simp
         with_reducible rfl
        rotate_left
        ·simp only [Act.put, sAa, sBb, sCc, i64_w, i32_w]
         rfl
        refine take_ (i := 15) (N := some 33) (v := ?_) (a' := ?_) #[true, true, true, true, true, true, true, true, true, true, true, true, true, true, true, true, false, false, true, true, false] rfl rfl (take_ofW HT_.out HW_.out (by kernel_rfl)) (fun _ _ _ h => h) (Or.inl ⟨by rfl, ?_⟩) hHeld ?_ ?_
        rotate_left
        ·rintro w' ⟨s0, s1, s2, s3, s4, s5, s6, s7, s8, s9, s10, s11, s12⟩
         go_simp
         with_reducible rfl
        rotate_left
        ·simp only [Act.put, sAa, sBb, sCc, i64_w, i32_w]
         rfl
        refine pure_ (i := 16) (N := some 34) (v := ?_) (a' := ?_) #[true, true, true, true, true, true, true, true, true, true, true, true, true, true, true, true, true, false, true, true, false] rfl rfl (any_of HT_.out (by kernel_rfl)) (fun _ _ _ h => h) (Or.inl ⟨by rfl, ?_⟩) ?_ ?_
        rotate_left
        ·intro w'
         go_simp
         with_reducible rfl
        rotate_left
        ·simp only [Act.put, sAa, sBb, sCc, i64_w, i32_w]
         rfl
        refine pure_ (i := 17) (N := some 35) (v := ?_) (a' := ?_) #[true, true, true, true, true, true, true, true, true, true, true, true, true, true, true, true, true, true, true, true, false] rfl rfl (any_of HT_.out (by kernel_rfl)) (fun _ _ _ h => h) (Or.inl ⟨by rfl, ?_⟩) ?_ ?_
        rotate_left
        ·intro w'
         go_simp
         with_reducible rfl
        rotate_left
        ·simp only [Act.put, sAa, sBb, sCc, i64_w, i32_w]
         rfl
        refine pure_ (i := 20) (N := some 12) (v := ?_) (a' := ?_) #[true, true, true, true, true, true, true, true, true, true, true, true, true, true, true, true, true, true, true, true, true] rfl rfl (any_of HT_.out (by kernel_rfl)) (fun _ _ _ h => h) (Or.inl ⟨by rfl, ?_⟩) ?_ ?_
        rotate_left
        ·intro w'
         go_simp
         with_reducible rfl
        rotate_left
        ·simp only [Act.put, sAa, sBb, sCc, i64_w, i32_w]
         rfl
        refine done_ (done_of HT_.out (by kernel_rfl)) ?_
        obtain ⟨hcz28_0, hcz28_1, hcz28_2, hcz28_3, hcz28_4, hcz28_5, hcz28_6, hcz28_7, hcz28_8, hcz28_9, hcz28_10, hcz28_11, hcz28_12⟩ := cellsK13 BK409.out
        obtain ⟨hfz28_0, hfz28_1, hfz28_2, hfz28_3, hfz28_4, hfz28_5, hfz28_6, hfz28_7, hfz28_8, hfz28_9, hfz28_10, hfz28_11, hfz28_12⟩ := frozK13 BK409.out
        try go_wp2_with (first | ((with_reducible refine gate_callee (f := 11) rfl ?_); refine goesL_ (some 39) rfl rfl Tryd.func11 (by kernel_rfl) rfl #[.agg #[.slice Ao23 t392.length co23, .slice Ao25 t395.length co25, .int .i64 t398, .int .i64 t399, .int .i64 t400, .int .i64 t401, .int .i64 t402, .int .i64 t403, .int .i64 t404, .int .i64 t405, .int .i64 t406, .int .i64 t407, .int .i64 t408], .int .i64 (Int.tmod (wrap64 (a1)) (t392.length : Int)), .int .i64 (Int.tmod (wrap64 (a2)) (t392.length : Int))] rfl (by (try simp only [List.map_toArray, List.map_cons, List.map_nil]); first | done | rfl | (simp only [List.length_drop, List.length_take]; rfl)) ?_; (with_reducible refine (hops_Dist.calls k _ _ t392 _ _ t395 t398 t399 t400 t401 t402 t403 t404 t405 t406 t407 t408 (Int.tmod (wrap64 (a1)) (t392.length : Int)) (Int.tmod (wrap64 (a2)) (t392.length : Int)) t410 _ ?side1 ?side2 ?side3 ?side4 A9.out).mono ?_); (case side1 => repeat (first | exact (Kd.R_reads' HO394.out).2.2 | (with_reducible refine Kd.C_alloc ?_ _) | (with_reducible refine Kd.C_drewN ?_ _) | (with_reducible refine Kd.C_drew ?_))); (case side2 => exact (Kd.R_reads' HO394.out).2.1); (case side3 => repeat (first | exact (Kd.R_reads' HO397.out).2.2 | (with_reducible refine Kd.C_alloc ?_ _) | (with_reducible refine Kd.C_drewN ?_ _) | (with_reducible refine Kd.C_drew ?_))); (case side4 => exact (Kd.R_reads' HO397.out).2.1); rintro e w29 ⟨rfl, hb⟩; refine ⟨_, rfl, ?_⟩; have n0_ := Aside0.mk (Kd.R_below (by (with_reducible repeat (first | apply Kd.R_alloc | apply Kd.R_drewN | apply Kd.R_drew)); exact HO394.out) hb); have n1_ := Aside0.mk (Kd.R_below (by (with_reducible repeat (first | apply Kd.R_alloc | apply Kd.R_drewN | apply Kd.R_drew)); exact HO397.out) hb); have n2_ := Aside0.mk (blk_below (g := gb409) (o := .cells #[.slice Ao23 t392.length co23, .slice Ao25 t395.length co25, .int .i64 t398, .int .i64 t399, .int .i64 t400, .int .i64 t401, .int .i64 t402, .int .i64 t403, .int .i64 t404, .int .i64 t405, .int .i64 t406, .int .i64 t407, .int .i64 t408] 25 (0, 0)) (by (with_reducible repeat (first | refine blk_drewN ?_ _ | refine blk_drew ?_ | refine blk_alloc ?_ _)); exact BK409.out) hb); have n3_ := Aside0.mk (below_step (by repeat (first | (with_reducible first | exact HB.out | apply below_alloc | apply pw_below_drewN | apply below_drew1 | refine below_set ?_ GE409.out) | exact HB.out)) hb); clear HO394; clear HO397; clear BK409; clear HB; have HO394 := n0_; have HO397 := n1_; have BK409 := n2_; have HB := n3_; clear n0_ n1_ n2_ n3_; (try clear hb); (try clear hb2); (try clear hk); (try clear hi)))
        have n0_ := Aside0.mk (Kd.R_drew HO394.out)
        have n1_ := Aside0.mk (Kd.R_drew HO397.out)
        have n2_ := Aside0.mk (blk_drew BK409.out)
        have n3_ := Aside0.mk (below_drew1 HB.out)
        clear HO394
        clear HO397
        clear BK409
        clear HB
        have HO394 := n0_
        have HO397 := n1_
        have BK409 := n2_
        have HB := n3_
        clear n0_ n1_ n2_ n3_
        refine start_ (n := 46) (S := fun w' => w'.cell? ⟨gb409, 0, none⟩ = some (.slice Ao23 t392.length co23) ∧ w'.cell? ⟨gb409, 1, none⟩ = some (.slice Ao25 t395.length co25) ∧ w'.cell? ⟨gb409, 2, none⟩ = some (.int .i64 t398) ∧ w'.cell? ⟨gb409, 3, none⟩ = some (.int .i64 t399) ∧ w'.cell? ⟨gb409, 4, none⟩ = some (.int .i64 t400) ∧ w'.cell? ⟨gb409, 5, none⟩ = some (.int .i64 t401) ∧ w'.cell? ⟨gb409, 6, none⟩ = some (.int .i64 t402) ∧ w'.cell? ⟨gb409, 7, none⟩ = some (.int .i64 t403) ∧ w'.cell? ⟨gb409, 8, none⟩ = some (.int .i64 t404) ∧ w'.cell? ⟨gb409, 9, none⟩ = some (.int .i64 t405) ∧ w'.cell? ⟨gb409, 10, none⟩ = some (.int .i64 t406) ∧ w'.cell? ⟨gb409, 11, none⟩ = some (.int .i64 t407) ∧ w'.cell? ⟨gb409, 12, none⟩ = some (.int .i64 t408)) (ds := []) #[false, false, false, false, false, false, false, false, false, false, false, false, false, false, false, false, false, false, false, false, false, false, false, false, false, false, false, false, false, false, false, false, false, false, false, false, false, false, false, false, false, false, false, false, false, false] (by kernel_rfl) rfl rfl ⟨(blk_cell BK409.out 0).trans rfl, (blk_cell BK409.out 1).trans rfl, (blk_cell BK409.out 2).trans rfl, (blk_cell BK409.out 3).trans rfl, (blk_cell BK409.out 4).trans rfl, (blk_cell BK409.out 5).trans rfl, (blk_cell BK409.out 6).trans rfl, (blk_cell BK409.out 7).trans rfl, (blk_cell BK409.out 8).trans rfl, (blk_cell BK409.out 9).trans rfl, (blk_cell BK409.out 10).trans rfl, (blk_cell BK409.out 11).trans rfl, (blk_cell BK409.out 12).trans rfl⟩ (fun hHeld => ?_); refine with_tabW drumlinelaw6_HopsWays.tab6 drumlinelaw6_HopsWays.bits6 (fun HT_ HW_ => ?_)
        generalize w29.drew = w30 at HO394 HO397 BK409 HB hHeld ⊢
        refine pure_ (i := 0) (N := some 40) (v := ?_) (a' := ?_) #[true, false, false, false, false, false, false, false, false, false, false, false, false, false, false, false, false, false, false, false, false, false, false, false, false, false, false, false, false, false, false, false, false, false, false, false, false, false, false, false, false, false, false, false, false, false] rfl rfl (any_of HT_.out (by kernel_rfl)) (fun _ _ _ h => h) (Or.inl ⟨by rfl, ?_⟩) ?_ ?_
        rotate_left
        ·intro w'
         go_simp
         with_reducible rfl
        rotate_left
        ·simp only [Act.put, sAa, sBb, sCc, i64_w, i32_w]
         rfl
        refine pure_ (i := 2) (N := some 42) (v := ?_) (a' := ?_) #[true, false, true, false, false, false, false, false, false, false, false, false, false, false, false, false, false, false, false, false, false, false, false, false, false, false, false, false, false, false, false, false, false, false, false, false, false, false, false, false, false, false, false, false, false, false] rfl rfl (any_of HT_.out (by kernel_rfl)) (fun _ _ _ h => h) (Or.inl ⟨by rfl, ?_⟩) ?_ ?_
        rotate_left
        ·intro w'
         go_simp
         with_reducible rfl
        rotate_left
        ·simp only [Act.put, sAa, sBb, sCc, i64_w, i32_w]
         rfl
        refine pure_ (i := 3) (N := some 43) (v := ?_) (a' := ?_) #[true, false, true, true, false, false, false, false, false, false, false, false, false, false, false, false, false, false, false, false, false, false, false, false, false, false, false, false, false, false, false, false, false, false, false, false, false, false, false, false, false, false, false, false, false, false] rfl rfl (any_of HT_.out (by kernel_rfl)) (fun _ _ _ h => h) (Or.inl ⟨by rfl, ?_⟩) ?_ ?_
        rotate_left
        ·intro w'
         go_simp
         with_reducible rfl
        rotate_left
        ·simp only [Act.put, sAa, sBb, sCc, i64_w, i32_w]
         rfl
        refine take_ (i := 1) (N := some 41) (v := ?_) (a' := ?_) #[true, true, true, true, false, false, false, false, false, false, false, false, false, false, false, false, false, false, false, false, false, false, false, false, false, false, false, false, false, false, false, false, false, false, false, false, false, false, false, false, false, false, false, false, false, false] rfl rfl (take_ofW HT_.out HW_.out (by kernel_rfl)) (fun _ _ _ h => h) (Or.inl ⟨by rfl, ?_⟩) hHeld ?_ ?_
        rotate_left
        ·rintro w' ⟨s0, s1, s2, s3, s4, s5, s6, s7, s8, s9, s10, s11, s12⟩
         go_simp
         with_reducible rfl
        rotate_left
        ·simp only [Act.put, sAa, sBb, sCc, i64_w, i32_w]
         rfl
        refine one_ (i := 4) (N := some 44) #[true, true, true, true, true, false, false, false, false, false, false, false, false, false, false, false, false, false, false, false, false, false, false, false, false, false, false, false, false, false, false, false, false, false, false, false, false, false, false, false, false, false, false, false, false, false] rfl rfl (one_of HT_.out (by kernel_rfl)) (by decide) (fun K hK => ?_)
        refine goes_ Tryd.func11 (by kernel_rfl) rfl #[.agg #[.slice Ao23 t392.length co23, .slice Ao25 t395.length co25, .int .i64 t398, .int .i64 t399, .int .i64 t400, .int .i64 t401, .int .i64 t402, .int .i64 t403, .int .i64 t404, .int .i64 t405, .int .i64 t406, .int .i64 t407, .int .i64 t408], .int .i64 (Int.tmod (wrap64 (a2)) (t392.length : Int)), .int .i64 (Int.tmod (wrap64 (a1)) (t392.length : Int))] (by rfl) rfl rfl (by (try simp only [List.map_toArray, List.map_cons, List.map_nil]); first | done | rfl | (simp only [List.length_drop, List.length_take]; rfl)) ?_
        with_reducible refine (hops_Dist.calls k _ _ t392 _ _ t395 t398 t399 t400 t401 t402 t403 t404 t405 t406 t407 t408 (Int.tmod (wrap64 (a2)) (t392.length : Int)) (Int.tmod (wrap64 (a1)) (t392.length : Int)) t411 _ ?side1 ?side2 ?side3 ?side4 A10.out).mono ?_
        (case side1 => repeat (first | exact (Kd.R_reads' HO394.out).2.2 | (with_reducible refine Kd.C_alloc ?_ _) | (with_reducible refine Kd.C_drewN ?_ _) | (with_reducible refine Kd.C_drew ?_)))
        (case side2 => exact (Kd.R_reads' HO394.out).2.1)
        (case side3 => repeat (first | exact (Kd.R_reads' HO397.out).2.2 | (with_reducible refine Kd.C_alloc ?_ _) | (with_reducible refine Kd.C_drewN ?_ _) | (with_reducible refine Kd.C_drew ?_)))
        (case side4 => exact (Kd.R_reads' HO397.out).2.1)
        rintro e w31 ⟨rfl, hb⟩
        refine ⟨_, rfl, ?_⟩
        have n0_ := Aside0.mk (Kd.R_below (by (with_reducible repeat (first | apply Kd.R_alloc | apply Kd.R_drewN | apply Kd.R_drew)); exact HO394.out) hb)
        have n1_ := Aside0.mk (Kd.R_below (by (with_reducible repeat (first | apply Kd.R_alloc | apply Kd.R_drewN | apply Kd.R_drew)); exact HO397.out) hb)
        have n2_ := Aside0.mk (blk_below (g := gb409) (o := .cells #[.slice Ao23 t392.length co23, .slice Ao25 t395.length co25, .int .i64 t398, .int .i64 t399, .int .i64 t400, .int .i64 t401, .int .i64 t402, .int .i64 t403, .int .i64 t404, .int .i64 t405, .int .i64 t406, .int .i64 t407, .int .i64 t408] 25 (0, 0)) (by (with_reducible repeat (first | refine blk_drewN ?_ _ | refine blk_drew ?_ | refine blk_alloc ?_ _)); exact BK409.out) hb)
        have n3_ := Aside0.mk (below_step (by repeat (first | (with_reducible first | exact HB.out | apply below_alloc | apply pw_below_drewN | apply below_drew1 | refine below_set ?_ GE409.out) | exact HB.out)) hb)
        clear HO394
        clear HO397
        clear BK409
        clear HB
        have HO394 := n0_
        have HO397 := n1_
        have BK409 := n2_
        have HB := n3_
        clear n0_ n1_ n2_ n3_
        (try clear hb)
        (try clear hb2)
        (try clear hk)
        (try clear hi)
        refine hK.out _ _ ⟨(blk_cell BK409.out 0).trans rfl, (blk_cell BK409.out 1).trans rfl, (blk_cell BK409.out 2).trans rfl, (blk_cell BK409.out 3).trans rfl, (blk_cell BK409.out 4).trans rfl, (blk_cell BK409.out 5).trans rfl, (blk_cell BK409.out 6).trans rfl, (blk_cell BK409.out 7).trans rfl, (blk_cell BK409.out 8).trans rfl, (blk_cell BK409.out 9).trans rfl, (blk_cell BK409.out 10).trans rfl, (blk_cell BK409.out 11).trans rfl, (blk_cell BK409.out 12).trans rfl⟩ (fun hHeld => ?_)
        clear hK K
        refine norm_ (a' := ?_) ?_ ?_
        rotate_left
        ·show Act.put _ (some 44) _ = _
         simp only [Act.put, sAa, sBb, sCc, i64_w, i32_w]
         rfl
        refine pure_ (i := 5) (N := some 45) (v := ?_) (a' := ?_) #[true, true, true, true, true, true, false, false, false, false, false, false, false, false, false, false, false, false, false, false, false, false, false, false, false, false, false, false, false, false, false, false, false, false, false, false, false, false, false, false, false, false, false, false, false, false] rfl rfl (any_of HT_.out (by kernel_rfl)) (fun _ _ _ h => h) (Or.inl ⟨by rfl, ?_⟩) ?_ ?_
        rotate_left
        ·intro w'
         go_simp
         with_reducible rfl
        rotate_left
        ·simp only [Act.put, sAa, sBb, sCc, i64_w, i32_w]
         rfl
        refine pure_ (i := 6) (N := some 46) (v := ?_) (a' := ?_) #[true, true, true, true, true, true, true, false, false, false, false, false, false, false, false, false, false, false, false, false, false, false, false, false, false, false, false, false, false, false, false, false, false, false, false, false, false, false, false, false, false, false, false, false, false, false] rfl rfl (any_of HT_.out (by kernel_rfl)) (fun _ _ _ h => h) (Or.inl ⟨by rfl, ?_⟩) ?_ ?_
        rotate_left
        ·intro w'
         go_simp
         with_reducible rfl
        rotate_left
        ·simp only [Act.put, sAa, sBb, sCc, i64_w, i32_w]
         rfl
        refine pure_ (i := 7) (N := some 47) (v := ?_) (a' := ?_) #[true, true, true, true, true, true, true, true, false, false, false, false, false, false, false, false, false, false, false, false, false, false, false, false, false, false, false, false, false, false, false, false, false, false, false, false, false, false, false, false, false, false, false, false, false, false] rfl rfl (any_of HT_.out (by kernel_rfl)) (fun _ _ _ h => h) (Or.inl ⟨by rfl, ?_⟩) ?_ ?_
        rotate_left
        ·intro w'
         go_simp
         with_reducible rfl
        rotate_left
        ·simp only [Act.put, sAa, sBb, sCc, i64_w, i32_w]
         rfl
        refine pure_ (i := 9) (N := some 49) (v := ?_) (a' := ?_) #[true, true, true, true, true, true, true, true, false, true, false, false, false, false, false, false, false, false, false, false, false, false, false, false, false, false, false, false, false, false, false, false, false, false, false, false, false, false, false, false, false, false, false, false, false, false] rfl rfl (any_of HT_.out (by kernel_rfl)) (fun _ _ _ h => h) (Or.inl ⟨by rfl, ?_⟩) ?_ ?_
        rotate_left
        ·intro w'
         go_simp
         with_reducible rfl
        rotate_left
        ·simp only [Act.put, sAa, sBb, sCc, i64_w, i32_w]
         rfl
        refine pure_ (i := 10) (N := some 50) (v := ?_) (a' := ?_) #[true, true, true, true, true, true, true, true, false, true, true, false, false, false, false, false, false, false, false, false, false, false, false, false, false, false, false, false, false, false, false, false, false, false, false, false, false, false, false, false, false, false, false, false, false, false] rfl rfl (any_of HT_.out (by kernel_rfl)) (fun _ _ _ h => h) (Or.inl ⟨by rfl, ?_⟩) ?_ ?_
        rotate_left
        ·intro w'
         go_simp
         with_reducible rfl
        rotate_left
        ·simp only [Act.put, sAa, sBb, sCc, i64_w, i32_w]
         rfl
        refine pure_ (i := 13) (N := some 53) (v := ?_) (a' := ?_) #[true, true, true, true, true, true, true, true, false, true, true, false, false, true, false, false, false, false, false, false, false, false, false, false, false, false, false, false, false, false, false, false, false, false, false, false, false, false, false, false, false, false, false, false, false, false] rfl rfl (any_of HT_.out (by kernel_rfl)) (fun _ _ _ h => h) (Or.inl ⟨by rfl, ?_⟩) ?_ ?_
        rotate_left
        ·intro w'
         go_simp
         with_reducible rfl
        rotate_left
        ·simp only [Act.put, sAa, sBb, sCc, i64_w, i32_w]
         rfl
        refine pure_ (i := 14) (N := some 54) (v := ?_) (a' := ?_) #[true, true, true, true, true, true, true, true, false, true, true, false, false, true, true, false, false, false, false, false, false, false, false, false, false, false, false, false, false, false, false, false, false, false, false, false, false, false, false, false, false, false, false, false, false, false] rfl rfl (any_of HT_.out (by kernel_rfl)) (fun _ _ _ h => h) (Or.inl ⟨by rfl, ?_⟩) ?_ ?_
        rotate_left
        ·intro w'
         go_simp
         with_reducible rfl
        rotate_left
        ·simp only [Act.put, sAa, sBb, sCc, i64_w, i32_w]
         rfl
        refine take_ (i := 8) (N := some 48) (v := ?_) (a' := ?_) #[true, true, true, true, true, true, true, true, true, true, true, false, false, true, true, false, false, false, false, false, false, false, false, false, false, false, false, false, false, false, false, false, false, false, false, false, false, false, false, false, false, false, false, false, false, false] rfl rfl (take_ofW HT_.out HW_.out (by kernel_rfl)) (fun _ _ _ h => h) (Or.inl ⟨by rfl, ?_⟩) hHeld ?_ ?_
        rotate_left
        ·rintro w' ⟨s0, s1, s2, s3, s4, s5, s6, s7, s8, s9, s10, s11, s12⟩
         go_simp
         with_reducible rfl
        rotate_left
        ·simp only [Act.put, sAa, sBb, sCc, i64_w, i32_w]
         rfl
        refine take_ (i := 12) (N := some 52) (v := ?_) (a' := ?_) #[true, true, true, true, true, true, true, true, true, true, true, false, true, true, true, false, false, false, false, false, false, false, false, false, false, false, false, false, false, false, false, false, false, false, false, false, false, false, false, false, false, false, false, false, false, false] rfl rfl (take_ofW HT_.out HW_.out (by kernel_rfl)) (fun _ _ _ h => h) (Or.inl ⟨by rfl, ?_⟩) hHeld ?_ ?_
        rotate_left
        ·rintro w' ⟨s0, s1, s2, s3, s4, s5, s6, s7, s8, s9, s10, s11, s12⟩
         go_simp
         with_reducible rfl
        rotate_left
        ·simp only [Act.put, sAa, sBb, sCc, i64_w, i32_w]
         rfl
        refine one_ (i := 11) (N := some 51) #[true, true, true, true, true, true, true, true, true, true, true, true, true, true, true, false, false, false, false, false, false, false, false, false, false, false, false, false, false, false, false, false, false, false, false, false, false, false, false, false, false, false, false, false, false, false] rfl rfl (one_of HT_.out (by kernel_rfl)) (by decide) (fun K hK => ?_)
        refine goes_ Tryd.func11 (by kernel_rfl) rfl #[.agg #[.slice Ao23 t392.length co23, .slice Ao25 t395.length co25, .int .i64 t398, .int .i64 t399, .int .i64 t400, .int .i64 t401, .int .i64 t402, .int .i64 t403, .int .i64 t404, .int .i64 t405, .int .i64 t406, .int .i64 t407, .int .i64 t408], .int .i64 (Int.tmod (wrap64 (a1)) (t392.length : Int)), .int .i64 (Int.tmod (wrap64 (a3)) (t392.length : Int))] (by rfl) rfl rfl (by (try simp only [List.map_toArray, List.map_cons, List.map_nil]); first | done | rfl | (simp only [List.length_drop, List.length_take]; rfl)) ?_
        with_reducible refine (hops_Dist.calls k _ _ t392 _ _ t395 t398 t399 t400 t401 t402 t403 t404 t405 t406 t407 t408 (Int.tmod (wrap64 (a1)) (t392.length : Int)) (Int.tmod (wrap64 (a3)) (t392.length : Int)) t412 _ ?side1 ?side2 ?side3 ?side4 A12.out).mono ?_
        (case side1 => repeat (first | exact (Kd.R_reads' HO394.out).2.2 | (with_reducible refine Kd.C_alloc ?_ _) | (with_reducible refine Kd.C_drewN ?_ _) | (with_reducible refine Kd.C_drew ?_)))
        (case side2 => exact (Kd.R_reads' HO394.out).2.1)
        (case side3 => repeat (first | exact (Kd.R_reads' HO397.out).2.2 | (with_reducible refine Kd.C_alloc ?_ _) | (with_reducible refine Kd.C_drewN ?_ _) | (with_reducible refine Kd.C_drew ?_)))
        (case side4 => exact (Kd.R_reads' HO397.out).2.1)
        rintro e w32 ⟨rfl, hb⟩
        refine ⟨_, rfl, ?_⟩
        have n0_ := Aside0.mk (Kd.R_below (by (with_reducible repeat (first | apply Kd.R_alloc | apply Kd.R_drewN | apply Kd.R_drew)); exact HO394.out) hb)
        have n1_ := Aside0.mk (Kd.R_below (by (with_reducible repeat (first | apply Kd.R_alloc | apply Kd.R_drewN | apply Kd.R_drew)); exact HO397.out) hb)
        have n2_ := Aside0.mk (blk_below (g := gb409) (o := .cells #[.slice Ao23 t392.length co23, .slice Ao25 t395.length co25, .int .i64 t398, .int .i64 t399, .int .i64 t400, .int .i64 t401, .int .i64 t402, .int .i64 t403, .int .i64 t404, .int .i64 t405, .int .i64 t406, .int .i64 t407, .int .i64 t408] 25 (0, 0)) (by (with_reducible repeat (first | refine blk_drewN ?_ _ | refine blk_drew ?_ | refine blk_alloc ?_ _)); exact BK409.out) hb)
        have n3_ := Aside0.mk (below_step (by repeat (first | (with_reducible first | exact HB.out | apply below_alloc | apply pw_below_drewN | apply below_drew1 | refine below_set ?_ GE409.out) | exact HB.out)) hb)
        clear HO394
        clear HO397
        clear BK409
        clear HB
        have HO394 := n0_
        have HO397 := n1_
        have BK409 := n2_
        have HB := n3_
        clear n0_ n1_ n2_ n3_
        (try clear hb)
        (try clear hb2)
        (try clear hk)
        (try clear hi)
        refine hK.out _ _ ⟨(blk_cell BK409.out 0).trans rfl, (blk_cell BK409.out 1).trans rfl, (blk_cell BK409.out 2).trans rfl, (blk_cell BK409.out 3).trans rfl, (blk_cell BK409.out 4).trans rfl, (blk_cell BK409.out 5).trans rfl, (blk_cell BK409.out 6).trans rfl, (blk_cell BK409.out 7).trans rfl, (blk_cell BK409.out 8).trans rfl, (blk_cell BK409.out 9).trans rfl, (blk_cell BK409.out 10).trans rfl, (blk_cell BK409.out 11).trans rfl, (blk_cell BK409.out 12).trans rfl⟩ (fun hHeld => ?_)
        clear hK K
        refine norm_ (a' := ?_) ?_ ?_
        rotate_left
        ·show Act.put _ (some 51) _ = _
         simp only [Act.put, sAa, sBb, sCc, i64_w, i32_w]
         rfl
        refine one_ (i := 15) (N := some 55) #[true, true, true, true, true, true, true, true, true, true, true, true, true, true, true, true, false, false, false, false, false, false, false, false, false, false, false, false, false, false, false, false, false, false, false, false, false, false, false, false, false, false, false, false, false, false] rfl rfl (one_of HT_.out (by kernel_rfl)) (by decide) (fun K hK => ?_)
        refine goes_ Tryd.func11 (by kernel_rfl) rfl #[.agg #[.slice Ao23 t392.length co23, .slice Ao25 t395.length co25, .int .i64 t398, .int .i64 t399, .int .i64 t400, .int .i64 t401, .int .i64 t402, .int .i64 t403, .int .i64 t404, .int .i64 t405, .int .i64 t406, .int .i64 t407, .int .i64 t408], .int .i64 (Int.tmod (wrap64 (a3)) (t392.length : Int)), .int .i64 (Int.tmod (wrap64 (a2)) (t392.length : Int))] (by rfl) rfl rfl (by (try simp only [List.map_toArray, List.map_cons, List.map_nil]); first | done | rfl | (simp only [List.length_drop, List.length_take]; rfl)) ?_
        with_reducible refine (hops_Dist.calls k _ _ t392 _ _ t395 t398 t399 t400 t401 t402 t403 t404 t405 t406 t407 t408 (Int.tmod (wrap64 (a3)) (t392.length : Int)) (Int.tmod (wrap64 (a2)) (t392.length : Int)) t413 _ ?side1 ?side2 ?side3 ?side4 A13.out).mono ?_
        (case side1 => repeat (first | exact (Kd.R_reads' HO394.out).2.2 | (with_reducible refine Kd.C_alloc ?_ _) | (with_reducible refine Kd.C_drewN ?_ _) | (with_reducible refine Kd.C_drew ?_)))
        (case side2 => exact (Kd.R_reads' HO394.out).2.1)
        (case side3 => repeat (first | exact (Kd.R_reads' HO397.out).2.2 | (with_reducible refine Kd.C_alloc ?_ _) | (with_reducible refine Kd.C_drewN ?_ _) | (with_reducible refine Kd.C_drew ?_)))
        (case side4 => exact (Kd.R_reads' HO397.out).2.1)
        rintro e w33 ⟨rfl, hb⟩
        refine ⟨_, rfl, ?_⟩
        have n0_ := Aside0.mk (Kd.R_below (by (with_reducible repeat (first | apply Kd.R_alloc | apply Kd.R_drewN | apply Kd.R_drew)); exact HO394.out) hb)
        have n1_ := Aside0.mk (Kd.R_below (by (with_reducible repeat (first | apply Kd.R_alloc | apply Kd.R_drewN | apply Kd.R_drew)); exact HO397.out) hb)
        have n2_ := Aside0.mk (blk_below (g := gb409) (o := .cells #[.slice Ao23 t392.length co23, .slice Ao25 t395.length co25, .int .i64 t398, .int .i64 t399, .int .i64 t400, .int .i64 t401, .int .i64 t402, .int .i64 t403, .int .i64 t404, .int .i64 t405, .int .i64 t406, .int .i64 t407, .int .i64 t408] 25 (0, 0)) (by (with_reducible repeat (first | refine blk_drewN ?_ _ | refine blk_drew ?_ | refine blk_alloc ?_ _)); exact BK409.out) hb)
        have n3_ := Aside0.mk (below_step (by repeat (first | (with_reducible first | exact HB.out | apply below_alloc | apply pw_below_drewN | apply below_drew1 | refine below_set ?_ GE409.out) | exact HB.out)) hb)
        clear HO394
        clear HO397
        clear BK409
        clear HB
        have HO394 := n0_
        have HO397 := n1_
        have BK409 := n2_
        have HB := n3_
        clear n0_ n1_ n2_ n3_
        (try clear hb)
        (try clear hb2)
        (try clear hk)
        (try clear hi)
        refine hK.out _ _ ⟨(blk_cell BK409.out 0).trans rfl, (blk_cell BK409.out 1).trans rfl, (blk_cell BK409.out 2).trans rfl, (blk_cell BK409.out 3).trans rfl, (blk_cell BK409.out 4).trans rfl, (blk_cell BK409.out 5).trans rfl, (blk_cell BK409.out 6).trans rfl, (blk_cell BK409.out 7).trans rfl, (blk_cell BK409.out 8).trans rfl, (blk_cell BK409.out 9).trans rfl, (blk_cell BK409.out 10).trans rfl, (blk_cell BK409.out 11).trans rfl, (blk_cell BK409.out 12).trans rfl⟩ (fun hHeld => ?_)
        clear hK K
        refine norm_ (a' := ?_) ?_ ?_
        rotate_left
        ·show Act.put _ (some 55) _ = _
         simp only [Act.put, sAa, sBb, sCc, i64_w, i32_w]
         rfl
        refine pure_ (i := 16) (N := some 56) (v := ?_) (a' := ?_) #[true, true, true, true, true, true, true, true, true, true, true, true, true, true, true, true, true, false, false, false, false, false, false, false, false, false, false, false, false, false, false, false, false, false, false, false, false, false, false, false, false, false, false, false, false, false] rfl rfl (any_of HT_.out (by kernel_rfl)) (fun _ _ _ h => h) (Or.inl ⟨by rfl, ?_⟩) ?_ ?_
        rotate_left
        ·intro w'
         go_simp
         with_reducible rfl
        rotate_left
        ·simp only [Act.put, sAa, sBb, sCc, i64_w, i32_w]
         rfl
        refine pure_ (i := 17) (N := some 57) (v := ?_) (a' := ?_) #[true, true, true, true, true, true, true, true, true, true, true, true, true, true, true, true, true, true, false, false, false, false, false, false, false, false, false, false, false, false, false, false, false, false, false, false, false, false, false, false, false, false, false, false, false, false] rfl rfl (any_of HT_.out (by kernel_rfl)) (fun _ _ _ h => h) (Or.inl ⟨by rfl, ?_⟩) ?_ ?_
        rotate_left
        ·intro w'
         go_simp
         with_reducible rfl
        rotate_left
        ·simp only [Act.put, sAa, sBb, sCc, i64_w, i32_w]
         rfl
        refine pure_ (i := 18) (N := some 58) (v := ?_) (a' := ?_) #[true, true, true, true, true, true, true, true, true, true, true, true, true, true, true, true, true, true, true, false, false, false, false, false, false, false, false, false, false, false, false, false, false, false, false, false, false, false, false, false, false, false, false, false, false, false] rfl rfl (any_of HT_.out (by kernel_rfl)) (fun _ _ _ h => h) (Or.inl ⟨by rfl, ?_⟩) ?_ ?_
        rotate_left
        ·intro w'
         go_simp
         with_reducible rfl
        rotate_left
        ·simp only [Act.put, sAa, sBb, sCc, i64_w, i32_w]
         rfl
        refine pure_ (i := 19) (N := some 59) (v := ?_) (a' := ?_) #[true, true, true, true, true, true, true, true, true, true, true, true, true, true, true, true, true, true, true, true, false, false, false, false, false, false, false, false, false, false, false, false, false, false, false, false, false, false, false, false, false, false, false, false, false, false] rfl rfl (any_of HT_.out (by kernel_rfl)) (fun _ _ _ h => h) (Or.inl ⟨by rfl, ?_⟩) ?_ ?_
        rotate_left
        ·intro w'
         go_simp
         with_reducible rfl
        rotate_left
        ·simp only [Act.put, sAa, sBb, sCc, i64_w, i32_w]
         rfl
        refine pure_ (i := 20) (N := some 60) (v := ?_) (a' := ?_) #[true, true, true, true, true, true, true, true, true, true, true, true, true, true, true, true, true, true, true, true, true, false, false, false, false, false, false, false, false, false, false, false, false, false, false, false, false, false, false, false, false, false, false, false, false, false] rfl rfl (any_of HT_.out (by kernel_rfl)) (fun _ _ _ h => h) (Or.inl ⟨by rfl, ?_⟩) ?_ ?_
        rotate_left
        ·intro w'
         go_simp
         with_reducible rfl
        rotate_left
        ·simp only [Act.put, sAa, sBb, sCc, i64_w, i32_w]
         rfl
        refine pure_ (i := 21) (N := some 61) (v := ?_) (a' := ?_) #[true, true, true, true, true, true, true, true, true, true, true, true, true, true, true, true, true, true, true, true, true, true, false, false, false, false, false, false, false, false, false, false, false, false, false, false, false, false, false, false, false, false, false, false, false, false] rfl rfl (any_of HT_.out (by kernel_rfl)) (fun _ _ _ h => h) (Or.inl ⟨by rfl, ?_⟩) ?_ ?_
        rotate_left
        ·intro w'
         go_simp
         with_reducible rfl
        rotate_left
        ·simp only [Act.put, sAa, sBb, sCc, i64_w, i32_w]
         rfl
        refine pure_ (i := 22) (N := some 62) (v := ?_) (a' := ?_) #[true, true, true, true, true, true, true, true, true, true, true, true, true, true, true, true, true, true, true, true, true, true, true, false, false, false, false, false, false, false, false, false, false, false, false, false, false, false, false, false, false, false, false, false, false, false] rfl rfl (any_of HT_.out (by kernel_rfl)) (fun _ _ _ h => h) (Or.inl ⟨by rfl, ?_⟩) ?_ ?_
        rotate_left
        ·intro w'
         go_simp
         with_reducible rfl
        rotate_left
        ·simp only [Act.put, sAa, sBb, sCc, i64_w, i32_w]
         rfl
        refine pure_ (i := 23) (N := some 63) (v := ?_) (a' := ?_) #[true, true, true, true, true, true, true, true, true, true, true, true, true, true, true, true, true, true, true, true, true, true, true, true, false, false, false, false, false, false, false, false, false, false, false, false, false, false, false, false, false, false, false, false, false, false] rfl rfl (any_of HT_.out (by kernel_rfl)) (fun _ _ _ h => h) (Or.inl ⟨by rfl, ?_⟩) ?_ ?_
        rotate_left
        ·intro w'
         go_simp
         with_reducible rfl
        rotate_left
        ·simp only [Act.put, sAa, sBb, sCc, i64_w, i32_w]
         rfl
        refine pure_ (i := 24) (N := some 64) (v := ?_) (a' := ?_) #[true, true, true, true, true, true, true, true, true, true, true, true, true, true, true, true, true, true, true, true, true, true, true, true, true, false, false, false, false, false, false, false, false, false, false, false, false, false, false, false, false, false, false, false, false, false] rfl rfl (any_of HT_.out (by kernel_rfl)) (fun _ _ _ h => h) (Or.inl ⟨by rfl, ?_⟩) ?_ ?_
        rotate_left
        ·intro w'
         go_simp
         with_reducible rfl
        rotate_left
        ·simp only [Act.put, sAa, sBb, sCc, i64_w, i32_w]
         rfl
        refine take_ (i := 25) (N := some 65) (v := ?_) (a' := ?_) #[true, true, true, true, true, true, true, true, true, true, true, true, true, true, true, true, true, true, true, true, true, true, true, true, true, true, false, false, false, false, false, false, false, false, false, false, false, false, false, false, false, false, false, false, false, false] rfl rfl (take_ofW HT_.out HW_.out (by kernel_rfl)) (fun _ _ _ h => h) (Or.inl ⟨by rfl, ?_⟩) hHeld ?_ ?_
        rotate_left
        ·rintro w' ⟨s0, s1, s2, s3, s4, s5, s6, s7, s8, s9, s10, s11, s12⟩
         go_simp
         with_reducible rfl
        rotate_left
        ·simp only [Act.put, sAa, sBb, sCc, i64_w, i32_w]
         rfl
        refine one_ (i := 26) (N := some 66) #[true, true, true, true, true, true, true, true, true, true, true, true, true, true, true, true, true, true, true, true, true, true, true, true, true, true, true, false, false, false, false, false, false, false, false, false, false, false, false, false, false, false, false, false, false, false] rfl rfl (one_of HT_.out (by kernel_rfl)) (by decide) (fun K hK => ?_)
        refine goes_ Tryd.func18 (by kernel_rfl) rfl #[.agg #[.slice Ao23 t392.length co23, .slice Ao25 t395.length co25, .int .i64 t398, .int .i64 t399, .int .i64 t400, .int .i64 t401, .int .i64 t402, .int .i64 t403, .int .i64 t404, .int .i64 t405, .int .i64 t406, .int .i64 t407, .int .i64 t408]] (by rfl) rfl rfl (by (try simp only [List.map_toArray, List.map_cons, List.map_nil]); first | done | rfl | (simp only [List.length_drop, List.length_take]; rfl)) ?_
        with_reducible refine (hops_Width.calls k _ _ t392 _ _ t395 t398 t399 t400 t401 t402 t403 t404 t405 t406 t407 t408 t414 _ ?side1 ?side2 ?side3 ?side4 A16.out).mono ?_
        (case side1 => repeat (first | exact (Kd.R_reads' HO394.out).2.2 | (with_reducible refine Kd.C_alloc ?_ _) | (with_reducible refine Kd.C_drewN ?_ _) | (with_reducible refine Kd.C_drew ?_)))
        (case side2 => exact (Kd.R_reads' HO394.out).2.1)
        (case side3 => repeat (first | exact (Kd.R_reads' HO397.out).2.2 | (with_reducible refine Kd.C_alloc ?_ _) | (with_reducible refine Kd.C_drewN ?_ _) | (with_reducible refine Kd.C_drew ?_)))
        (case side4 => exact (Kd.R_reads' HO397.out).2.1)
        rintro e w34 ⟨rfl, hb⟩
        refine ⟨_, rfl, ?_⟩
        have n0_ := Aside0.mk (Kd.R_below (by (with_reducible repeat (first | apply Kd.R_alloc | apply Kd.R_drewN | apply Kd.R_drew)); exact HO394.out) hb)
        have n1_ := Aside0.mk (Kd.R_below (by (with_reducible repeat (first | apply Kd.R_alloc | apply Kd.R_drewN | apply Kd.R_drew)); exact HO397.out) hb)
        have n2_ := Aside0.mk (blk_below (g := gb409) (o := .cells #[.slice Ao23 t392.length co23, .slice Ao25 t395.length co25, .int .i64 t398, .int .i64 t399, .int .i64 t400, .int .i64 t401, .int .i64 t402, .int .i64 t403, .int .i64 t404, .int .i64 t405, .int .i64 t406, .int .i64 t407, .int .i64 t408] 25 (0, 0)) (by (with_reducible repeat (first | refine blk_drewN ?_ _ | refine blk_drew ?_ | refine blk_alloc ?_ _)); exact BK409.out) hb)
        have n3_ := Aside0.mk (below_step (by repeat (first | (with_reducible first | exact HB.out | apply below_alloc | apply pw_below_drewN | apply below_drew1 | refine below_set ?_ GE409.out) | exact HB.out)) hb)
        clear HO394
        clear HO397
        clear BK409
        clear HB
        have HO394 := n0_
        have HO397 := n1_
        have BK409 := n2_
        have HB := n3_
        clear n0_ n1_ n2_ n3_
        (try clear hb)
        (try clear hb2)
        (try clear hk)
        (try clear hi)
        refine hK.out _ _ ⟨(blk_cell BK409.out 0).trans rfl, (blk_cell BK409.out 1).trans rfl, (blk_cell BK409.out 2).trans rfl, (blk_cell BK409.out 3).trans rfl, (blk_cell BK409.out 4).trans rfl, (blk_cell BK409.out 5).trans rfl, (blk_cell BK409.out 6).trans rfl, (blk_cell BK409.out 7).trans rfl, (blk_cell BK409.out 8).trans rfl, (blk_cell BK409.out 9).trans rfl, (blk_cell BK409.out 10).trans rfl, (blk_cell BK409.out 11).trans rfl, (blk_cell BK409.out 12).trans rfl⟩ (fun hHeld => ?_)
        clear hK K
        refine norm_ (a' := ?_) ?_ ?_
        rotate_left
        ·show Act.put _ (some 66) _ = _
         simp only [Act.put, sAa, sBb, sCc, i64_w, i32_w]
         rfl
        refine pure_ (i := 27) (N := some 67) (v := ?_) (a' := ?_) #[true, true, true, true, true, true, true, true, true, true, true, true, true, true, true, true, true, true, true, true, true, true, true, true, true, true, true, true, false, false, false, false, false, false, false, false, false, false, false, false, false, false, false, false, false, false] rfl rfl (any_of HT_.out (by kernel_rfl)) (fun _ _ _ h => h) (Or.inl ⟨by rfl, ?_⟩) ?_ ?_
        rotate_left
        ·intro w'
         go_simp
         with_reducible rfl
        rotate_left
        ·simp only [Act.put, sAa, sBb, sCc, i64_w, i32_w]
         rfl
        refine pure_ (i := 28) (N := some 68) (v := ?_) (a' := ?_) #[true, true, true, true, true, true, true, true, true, true, true, true, true, true, true, true, true, true, true, true, true, true, true, true, true, true, true, true, true, false, false, false, false, false, false, false, false, false, false, false, false, false, false, false, false, false] rfl rfl (any_of HT_.out (by kernel_rfl)) (fun _ _ _ h => h) (Or.inl ⟨by rfl, ?_⟩) ?_ ?_
        rotate_left
        ·intro w'
         go_simp
         with_reducible rfl
        rotate_left
        ·simp only [Act.put, sAa, sBb, sCc, i64_w, i32_w]
         rfl
        refine pure_ (i := 29) (N := some 69) (v := ?_) (a' := ?_) #[true, true, true, true, true, true, true, true, true, true, true, true, true, true, true, true, true, true, true, true, true, true, true, true, true, true, true, true, true, true, false, false, false, false, false, false, false, false, false, false, false, false, false, false, false, false] rfl rfl (any_of HT_.out (by kernel_rfl)) (fun _ _ _ h => h) (Or.inl ⟨by rfl, ?_⟩) ?_ ?_
        rotate_left
        ·intro w'
         go_simp
         with_reducible rfl
        rotate_left
        ·simp only [Act.put, sAa, sBb, sCc, i64_w, i32_w]
         rfl
        refine pure_ (i := 30) (N := some 70) (v := ?_) (a' := ?_) #[true, true, true, true, true, true, true, true, true, true, true, true, true, true, true, true, true, true, true, true, true, true, true, true, true, true, true, true, true, true, true, false, false, false, false, false, false, false, false, false, false, false, false, false, false, false] rfl rfl (any_of HT_.out (by kernel_rfl)) (fun _ _ _ h => h) (Or.inl ⟨by rfl, ?_⟩) ?_ ?_
        rotate_left
        ·intro w'
         go_simp
         with_reducible rfl
        rotate_left
        ·simp only [Act.put, sAa, sBb, sCc, i64_w, i32_w]
         rfl
        refine pure_ (i := 31) (N := some 71) (v := ?_) (a' := ?_) #[true, true, true, true, true, true, true, true, true, true, true, true, true, true, true, true, true, true, true, true, true, true, true, true, true, true, true, true, true, true, true, true, false, false, false, false, false, false, false, false, false, false, false, false, false, false] rfl rfl (any_of HT_.out (by kernel_rfl)) (fun _ _ _ h => h) (Or.inl ⟨by rfl, ?_⟩) ?_ ?_
        rotate_left
        ·intro w'
         go_simp
         with_reducible rfl
        rotate_left
        ·simp only [Act.put, sAa, sBb, sCc, i64_w, i32_w]
         rfl
        refine pure_ (i := 32) (N := some 72) (v := ?_) (a' := ?_) #[true, true, true, true, true, true, true, true, true, true, true, true, true, true, true, true, true, true, true, true, true, true, true, true, true, true, true, true, true, true, true, true, true, false, false, false, false, false, false, false, false, false, false, false, false, false] rfl rfl (any_of HT_.out (by kernel_rfl)) (fun _ _ _ h => h) (Or.inl ⟨by rfl, ?_⟩) ?_ ?_
        rotate_left
        ·intro w'
         go_simp
         with_reducible rfl
        rotate_left
        ·simp only [Act.put, sAa, sBb, sCc, i64_w, i32_w]
         rfl
        refine pure_ (i := 33) (N := some 73) (v := ?_) (a' := ?_) #[true, true, true, true, true, true, true, true, true, true, true, true, true, true, true, true, true, true, true, true, true, true, true, true, true, true, true, true, true, true, true, true, true, true, false, false, false, false, false, false, false, false, false, false, false, false] rfl rfl (any_of HT_.out (by kernel_rfl)) (fun _ _ _ h => h) (Or.inl ⟨by rfl, ?_⟩) ?_ ?_
        rotate_left
        ·intro w'
         go_simp
         with_reducible rfl
        rotate_left
        ·simp only [Act.put, sAa, sBb, sCc, i64_w, i32_w]
         rfl
        refine pure_ (i := 34) (N := some 74) (v := ?_) (a' := ?_) #[true, true, true, true, true, true, true, true, true, true, true, true, true, true, true, true, true, true, true, true, true, true, true, true, true, true, true, true, true, true, true, true, true, true, true, false, false, false, false, false, false, false, false, false, false, false] rfl rfl (any_of HT_.out (by kernel_rfl)) (fun _ _ _ h => h) (Or.inl ⟨by rfl, ?_⟩) ?_ ?_
        rotate_left
        ·intro w'
         go_simp
         with_reducible rfl
        rotate_left
        ·simp only [Act.put, sAa, sBb, sCc, i64_w, i32_w]
         rfl
        refine pure_ (i := 35) (N := some 75) (v := ?_) (a' := ?_) #[true, true, true, true, true, true, true, true, true, true, true, true, true, true, true, true, true, true, true, true, true, true, true, true, true, true, true, true, true, true, true, true, true, true, true, true, false, false, false, false, false, false, false, false, false, false] rfl rfl (any_of HT_.out (by kernel_rfl)) (fun _ _ _ h => h) (Or.inl ⟨by rfl, ?_⟩) ?_ ?_
        rotate_left
        ·intro w'
         go_simp
         with_reducible rfl
        rotate_left
        ·simp only [Act.put, sAa, sBb, sCc, i64_w, i32_w]
         rfl
        refine pure_ (i := 36) (N := some 76) (v := ?_) (a' := ?_) #[true, true, true, true, true, true, true, true, true, true, true, true, true, true, true, true, true, true, true, true, true, true, true, true, true, true, true, true, true, true, true, true, true, true, true, true, true, false, false, false, false, false, false, false, false, false] rfl rfl (any_of HT_.out (by kernel_rfl)) (fun _ _ _ h => h) (Or.inl ⟨by rfl, ?_⟩) ?_ ?_
        rotate_left
        ·intro w'
         go_simp
         with_reducible rfl
        rotate_left
        ·simp only [Act.put, sAa, sBb, sCc, i64_w, i32_w]
         rfl
        refine pure_ (i := 37) (N := some 77) (v := ?_) (a' := ?_) #[true, true, true, true, true, true, true, true, true, true, true, true, true, true, true, true, true, true, true, true, true, true, true, true, true, true, true, true, true, true, true, true, true, true, true, true, true, true, false, false, false, false, false, false, false, false] rfl rfl (any_of HT_.out (by kernel_rfl)) (fun _ _ _ h => h) (Or.inl ⟨by rfl, ?_⟩) ?_ ?_
        rotate_left
        ·intro w'
         go_simp
         with_reducible rfl
        rotate_left
        ·simp only [Act.put, sAa, sBb, sCc, i64_w, i32_w]
         rfl
        refine pure_ (i := 40) (N := some 80) (v := ?_) (a' := ?_) #[true, true, true, true, true, true, true, true, true, true, true, true, true, true, true, true, true, true, true, true, true, true, true, true, true, true, true, true, true, true, true, true, true, true, true, true, true, true, false, false, true, false, false, false, false, false] rfl rfl (any_of HT_.out (by kernel_rfl)) (fun _ _ _ h => h) (Or.inl ⟨by rfl, ?_⟩) ?_ ?_
        rotate_left
        ·intro w'
         go_simp
         with_reducible rfl
        rotate_left
        ·simp only [Act.put, sAa, sBb, sCc, i64_w, i32_w]
         rfl
        refine take_ (i := 38) (N := some 78) (v := ?_) (a' := ?_) #[true, true, true, true, true, true, true, true, true, true, true, true, true, true, true, true, true, true, true, true, true, true, true, true, true, true, true, true, true, true, true, true, true, true, true, true, true, true, true, false, true, false, false, false, false, false] rfl rfl (take_ofW HT_.out HW_.out (by kernel_rfl)) (fun _ _ _ h => h) (Or.inl ⟨by rfl, ?_⟩) hHeld ?_ ?_
        rotate_left
        ·rintro w' ⟨s0, s1, s2, s3, s4, s5, s6, s7, s8, s9, s10, s11, s12⟩
         go_simp
         with_reducible rfl
        rotate_left
        ·simp only [Act.put, sAa, sBb, sCc, i64_w, i32_w]
         rfl
        refine take_ (i := 41) (N := some 81) (v := ?_) (a' := ?_) #[true, true, true, true, true, true, true, true, true, true, true, true, true, true, true, true, true, true, true, true, true, true, true, true, true, true, true, true, true, true, true, true, true, true, true, true, true, true, true, false, true, true, false, false, false, false] rfl rfl (take_ofW HT_.out HW_.out (by kernel_rfl)) (fun _ _ _ h => h) (Or.inl ⟨by rfl, ?_⟩) hHeld ?_ ?_
        rotate_left
        ·rintro w' ⟨s0, s1, s2, s3, s4, s5, s6, s7, s8, s9, s10, s11, s12⟩
         go_simp
         with_reducible rfl
        rotate_left
        ·simp only [Act.put, sAa, sBb, sCc, i64_w, i32_w]
         rfl
        refine pure_ (i := 42) (N := some 82) (v := ?_) (a' := ?_) #[true, true, true, true, true, true, true, true, true, true, true, true, true, true, true, true, true, true, true, true, true, true, true, true, true, true, true, true, true, true, true, true, true, true, true, true, true, true, true, false, true, true, true, false, false, false] rfl rfl (any_of HT_.out (by kernel_rfl)) (fun _ _ _ h => h) (Or.inl ⟨by rfl, ?_⟩) ?_ ?_
        rotate_left
        ·intro w'
         go_simp
         with_reducible rfl
        rotate_left
        ·simp only [Act.put, sAa, sBb, sCc, i64_w, i32_w]
         rfl
        refine one_ (i := 39) (N := some 79) #[true, true, true, true, true, true, true, true, true, true, true, true, true, true, true, true, true, true, true, true, true, true, true, true, true, true, true, true, true, true, true, true, true, true, true, true, true, true, true, true, true, true, true, false, false, false] rfl rfl (one_of HT_.out (by kernel_rfl)) (by decide) (fun K hK => ?_)
        refine goes_ Tryd.func18 (by kernel_rfl) rfl #[.agg #[.slice Ao23 t392.length co23, .slice Ao25 t395.length co25, .int .i64 t398, .int .i64 t399, .int .i64 t400, .int .i64 t401, .int .i64 t402, .int .i64 t403, .int .i64 t404, .int .i64 t405, .int .i64 t406, .int .i64 t407, .int .i64 t408]] (by rfl) rfl rfl (by (try simp only [List.map_toArray, List.map_cons, List.map_nil]); first | done | rfl | (simp only [List.length_drop, List.length_take]; rfl)) ?_
        with_reducible refine (hops_Width.calls k _ _ t392 _ _ t395 t398 t399 t400 t401 t402 t403 t404 t405 t406 t407 t408 t415 _ ?side1 ?side2 ?side3 ?side4 A19.out).mono ?_
        (case side1 => repeat (first | exact (Kd.R_reads' HO394.out).2.2 | (with_reducible refine Kd.C_alloc ?_ _) | (with_reducible refine Kd.C_drewN ?_ _) | (with_reducible refine Kd.C_drew ?_)))
        (case side2 => exact (Kd.R_reads' HO394.out).2.1)
        (case side3 => repeat (first | exact (Kd.R_reads' HO397.out).2.2 | (with_reducible refine Kd.C_alloc ?_ _) | (with_reducible refine Kd.C_drewN ?_ _) | (with_reducible refine Kd.C_drew ?_)))
        (case side4 => exact (Kd.R_reads' HO397.out).2.1)
        rintro e w35 ⟨rfl, hb⟩
        refine ⟨_, rfl, ?_⟩
        have n0_ := Aside0.mk (Kd.R_below (by (with_reducible repeat (first | apply Kd.R_alloc | apply Kd.R_drewN | apply Kd.R_drew)); exact HO394.out) hb)
        have n1_ := Aside0.mk (Kd.R_below (by (with_reducible repeat (first | apply Kd.R_alloc | apply Kd.R_drewN | apply Kd.R_drew)); exact HO397.out) hb)
        have n2_ := Aside0.mk (blk_below (g := gb409) (o := .cells #[.slice Ao23 t392.length co23, .slice Ao25 t395.length co25, .int .i64 t398, .int .i64 t399, .int .i64 t400, .int .i64 t401, .int .i64 t402, .int .i64 t403, .int .i64 t404, .int .i64 t405, .int .i64 t406, .int .i64 t407, .int .i64 t408] 25 (0, 0)) (by (with_reducible repeat (first | refine blk_drewN ?_ _ | refine blk_drew ?_ | refine blk_alloc ?_ _)); exact BK409.out) hb)
        have n3_ := Aside0.mk (below_step (by repeat (first | (with_reducible first | exact HB.out | apply below_alloc | apply pw_below_drewN | apply below_drew1 | refine below_set ?_ GE409.out) | exact HB.out)) hb)
        clear HO394
        clear HO397
        clear BK409
        clear HB
        have HO394 := n0_
        have HO397 := n1_
        have BK409 := n2_
        have HB := n3_
        clear n0_ n1_ n2_ n3_
        (try clear hb)
        (try clear hb2)
        (try clear hk)
        (try clear hi)
        refine hK.out _ _ ⟨(blk_cell BK409.out 0).trans rfl, (blk_cell BK409.out 1).trans rfl, (blk_cell BK409.out 2).trans rfl, (blk_cell BK409.out 3).trans rfl, (blk_cell BK409.out 4).trans rfl, (blk_cell BK409.out 5).trans rfl, (blk_cell BK409.out 6).trans rfl, (blk_cell BK409.out 7).trans rfl, (blk_cell BK409.out 8).trans rfl, (blk_cell BK409.out 9).trans rfl, (blk_cell BK409.out 10).trans rfl, (blk_cell BK409.out 11).trans rfl, (blk_cell BK409.out 12).trans rfl⟩ (fun hHeld => ?_)
        clear hK K
        refine norm_ (a' := ?_) ?_ ?_
        rotate_left
        ·show Act.put _ (some 79) _ = _
         simp only [Act.put, sAa, sBb, sCc, i64_w, i32_w]
         rfl
        refine pure_ (i := 43) (N := some 83) (v := ?_) (a' := ?_) #[true, true, true, true, true, true, true, true, true, true, true, true, true, true, true, true, true, true, true, true, true, true, true, true, true, true, true, true, true, true, true, true, true, true, true, true, true, true, true, true, true, true, true, true, false, false] rfl rfl (any_of HT_.out (by kernel_rfl)) (fun _ _ _ h => h) (Or.inl ⟨by rfl, ?_⟩) ?_ ?_
        rotate_left
        ·intro w'
         go_simp
         with_reducible rfl
        rotate_left
        ·simp only [Act.put, sAa, sBb, sCc, i64_w, i32_w]
         rfl
        refine pure_ (i := 44) (N := some 84) (v := ?_) (a' := ?_) #[true, true, true, true, true, true, true, true, true, true, true, true, true, true, true, true, true, true, true, true, true, true, true, true, true, true, true, true, true, true, true, true, true, true, true, true, true, true, true, true, true, true, true, true, true, false] rfl rfl (any_of HT_.out (by kernel_rfl)) (fun _ _ _ h => h) (Or.inl ⟨by rfl, ?_⟩) ?_ ?_
        rotate_left
        ·intro w'
         go_simp
         with_reducible rfl
        rotate_left
        ·simp only [Act.put, sAa, sBb, sCc, i64_w, i32_w]
         rfl
        refine pure_ (i := 45) (N := some 8) (v := ?_) (a' := ?_) #[true, true, true, true, true, true, true, true, true, true, true, true, true, true, true, true, true, true, true, true, true, true, true, true, true, true, true, true, true, true, true, true, true, true, true, true, true, true, true, true, true, true, true, true, true, true] rfl rfl (any_of HT_.out (by kernel_rfl)) (fun _ _ _ h => h) (Or.inl ⟨by rfl, ?_⟩) ?_ ?_
        rotate_left
        ·intro w'
         go_simp
         with_reducible rfl
        rotate_left
        ·simp only [Act.put, sAa, sBb, sCc, i64_w, i32_w]
         rfl
        refine done_ (done_of HT_.out (by kernel_rfl)) ?_
        try go_wp2
        go_ret
        exact ⟨by first | rfl | (simp [errW_none, errW_some] <;> rfl) | (simp [*, errW_none, errW_some] <;> rfl), by repeat (first | (with_reducible first | exact HB.out | apply below_alloc | apply pw_below_drewN | apply below_drew1 | refine below_set ?_ GE409.out) | exact HB.out)⟩
       ·rw [if_neg c18] at H
        have c18b0 : ((t410 == 0) == ((Int.tmod (wrap64 (a1)) (t392.length : Int)) == (Int.tmod (wrap64 (a2)) (t392.length : Int)))) = false := by simpa using c18
        (try (have c18b1 : decide ((t410 == 0) = ((Int.tmod (wrap64 (a1)) (t392.length : Int)) == (Int.tmod (wrap64 (a2)) (t392.length : Int)))) = false := by simpa using c18))
        (try (have c18b2 : ((t410 == 0) == ((Int.tmod (wrap64 (a1)) (t392.length : Int)) == (Int.tmod (wrap64 (a2)) (t392.length : Int)))) = false := by simpa using c18))
        (try (have c18b3 : ¬ ((t410 == 0) = ((Int.tmod (wrap64 (a1)) (t392.length : Int)) == (Int.tmod (wrap64 (a2)) (t392.length : Int)))) := by simpa using c18))
        clear c18
        rw [hr] at H
        exact absurd H (by decide)
      ·rw [if_neg c17] at H
       have c17b0 : decide (t410 ≤ t414) = false := decide_eq_false c17
       clear c17
       rw [hr] at H
       exact absurd H (by decide)
     ·rw [if_neg c15] at H
      have c15b0 : decide (0 ≤ t410) = false := decide_eq_false c15
      clear c15
      rw [hr] at H
      exact absurd H (by decide)
    ·rw [if_neg c14] at H
     have c14b0 : decide (t410 ≤ (wrap64 (t412 + t413))) = false := decide_eq_false c14
     clear c14
     rw [hr] at H
     exact absurd H (by decide)
   ·rw [if_neg c11] at H
    have c11b0 : (t410 == t411) = false := beq_eq_false_iff_ne.mpr c11
    have c11b1 : (t410 != t411) = true := bne_iff_ne.mpr c11
    rw [hr] at H
    exact absurd H (by decide)
 ·replace c6 := Bool.eq_false_iff.mpr c6
  subst c6
  have H1 : (some false) = some r := by rw [if_neg (show ¬ (false = true) by decide)] at H; exact H
  clear H
  have H := H1
  clear H1
  rw [hr] at H
  exact absurd H (by decide)
def drumlinelaw6_HopsWays.Pure : Prop := ∀ (a0 : Int) (a1 : Int) (a2 : Int) (a3 : Int), (Lit.int .i64 a0).wf = true → (Lit.int .u8 a1).wf = true → (Lit.int .u8 a2).wf = true → (Lit.int .u8 a3).wf = true → ∃ k, drumlinelaw6_HopsWays.f k a0 a1 a2 a3 = some true
theorem drumlinelaw6_HopsWays.walk (P : drumlinelaw6_HopsWays.Pure) (a0 : Int) (a1 : Int) (a2 : Int) (a3 : Int) (w : World) (w0 : (Lit.int .i64 a0).wf = true) (w1 : (Lit.int .u8 a1).wf = true) (w2 : (Lit.int .u8 a2).wf = true) (w3 : (Lit.int .u8 a3).wf = true) :
  Calls Tryd.prog 6 #[.int .i64 a0, .int .u8 a1, .int .u8 a2, .int .u8 a3] w fun e w' => e = .returned (.bool true) ∧ Below w.heap.size w w' := by
 obtain ⟨k, h⟩ := P a0 a1 a2 a3 w0 w1 w2 w3
 refine (drumlinelaw6_HopsWays.calls k a0 a1 a2 a3 true w h rfl).mono ?_
 rintro e w' ⟨rfl, hd⟩
 exact ⟨rfl, hd⟩
end Go.Proofs.YtkhlndhleiaokaaDoor.MHo
set_option linter.unusedVariables false
namespace Go.Proofs.YtkhlndhleiaokaaDoor.MHo
open Go.RowKit Go.Proofs.YtkhlndhleiaokaaDoorW.PrintWords
theorem made_cases {X : Nat → Nat → Prop} (h : X 1 0 ∧ X 1 1 ∧ X 1 2 ∧ X 1 3 ∧ X 2 0 ∧ X 2 1 ∧ X 2 2 ∧ X 2 3 ∧ X 3 0 ∧ X 3 1 ∧ X 3 2 ∧ X 3 3 ∧ X 4 0 ∧ X 4 1 ∧ X 4 2 ∧ X 4 3) (q s : Nat) (h1 : 1 ≤ q) (h4 : q ≤ 4) (h3 : s ≤ 3) : X q s := by
 obtain ⟨a1, a2, a3, a4, b1, b2, b3, b4, c1, c2, c3, c4, d1, d2, d3, d4⟩ := h
 rcases (show q = 1 ∨ q = 2 ∨ q = 3 ∨ q = 4 by omega) with rfl | rfl | rfl | rfl <;> rcases (show s = 0 ∨ s = 1 ∨ s = 2 ∨ s = 3 by omega) with rfl | rfl | rfl | rfl <;> assumption
theorem right_made (a2 a3 a4 a5 a6 a7 a8 a9 a10 a11 a12 : Int) (q s : Nat) (h1 : 1 ≤ q) (h4 : q ≤ 4) (h3 : s ≤ 3) : plan_Right.f (madeNet q s).1 (madeNet q s).2 a2 a3 a4 a5 a6 a7 a8 a9 a10 a11 a12 = some true := by
 refine made_cases (X := fun q s => plan_Right.f (madeNet q s).1 (madeNet q s).2 a2 a3 a4 a5 a6 a7 a8 a9 a10 a11 a12 = some true) ⟨?_, ?_, ?_, ?_, ?_, ?_, ?_, ?_, ?_, ?_, ?_, ?_, ?_, ?_, ?_, ?_⟩ q s h1 h4 h3 <;> kernel_rfl
theorem good_made (a2 a3 a4 a5 a6 a7 a8 a9 a10 a11 a12 : Int) (q s : Nat) (h1 : 1 ≤ q) (h4 : q ≤ 4) (h3 : s ≤ 3) : drumlineref5_Good.f (madeNet q s).1 (madeNet q s).2 a2 a3 a4 a5 a6 a7 a8 a9 a10 a11 a12 0 = some true := by
 refine made_cases (X := fun q s => drumlineref5_Good.f (madeNet q s).1 (madeNet q s).2 a2 a3 a4 a5 a6 a7 a8 a9 a10 a11 a12 0 = some true) ⟨?_, ?_, ?_, ?_, ?_, ?_, ?_, ?_, ?_, ?_, ?_, ?_, ?_, ?_, ?_, ?_⟩ q s h1 h4 h3 <;> kernel_rfl
end Go.Proofs.YtkhlndhleiaokaaDoor.MHo
set_option linter.unusedVariables false
set_option linter.unusedSimpArgs false
namespace Go.Proofs.YtkhlndhleiaokaaDoor.MHo
open Go.RowKit Go.Proofs.YtkhlndhleiaokaaDoorW.PrintWords
def up (d : Int) : Int := (d + 999999) / 1000000
theorem ceil_eq {d : Int} (h0 : 0 ≤ d) (h1 : d ≤ 1000000000000) : drumlineref1_Ceil.f d 1000000 = some (up d, true) := by
 unfold drumlineref1_Ceil.f up
 rw [if_neg (by omega), if_neg (by omega), Int.tmod_eq_emod_of_nonneg h0, Int.tdiv_eq_ediv_of_nonneg h0]
 have e : wrap64 (d / 1000000) = d / 1000000 := by unfold wrap64; omega
 rw [e]
 by_cases h : d % 1000000 > 0
 ·rw [if_pos h, show wrap64 (d / 1000000 + 1) = d / 1000000 + 1 by unfold wrap64; omega, show d / 1000000 + 1 = (d + 999999) / 1000000 by omega]
 ·rw [if_neg h, show d / 1000000 = (d + 999999) / 1000000 by omega]
theorem up_eq {d : Int} (h0 : 0 ≤ d) (h1 : d ≤ 1000000000000) : drumlineref5_up.f d = some (up d) := by
 unfold drumlineref5_up.f; rw [ceil_eq h0 h1]; rfl
def Eg (dr cyc : Int) : Int := up (2 * dr * cyc) + 1
theorem dc_bd {dr cyc : Int} (h1 : 0 ≤ dr) (h2 : dr ≤ 140) (h3 : 20000 ≤ cyc) (h4 : cyc ≤ 27000) : 0 ≤ dr * cyc ∧ dr * cyc ≤ 3780000 ∧ 2 * dr * cyc = 2 * (dr * cyc) := by
 refine ⟨Int.mul_nonneg h1 (by omega), ?_, Int.mul_assoc 2 dr cyc⟩
 calc dr * cyc ≤ 140 * cyc := Int.mul_le_mul_of_nonneg_right h2 (by omega)
  _ ≤ 3780000 := by omega
theorem Eg_bd {dr cyc : Int} (h1 : 0 ≤ dr) (h2 : dr ≤ 140) (h3 : 20000 ≤ cyc) (h4 : cyc ≤ 27000) : 1 ≤ Eg dr cyc ∧ Eg dr cyc ≤ 9 := by
 have := dc_bd h1 h2 h3 h4
 unfold Eg up; omega
theorem edge_eq (P : List S60) (L : List S37) {a2 a3 a4 a5 a6 a7 a8 a9 a10 a11 a12 : Int} (h1 : 0 ≤ a6) (h2 : a6 ≤ 140) (h3 : 20000 ≤ a2) (h4 : a2 ≤ 27000) : drumlineref5_edge.f P L a2 a3 a4 a5 a6 a7 a8 a9 a10 a11 a12 = some (Eg a6 a2) := by
 have hb := dc_bd h1 h2 h3 h4
 unfold drumlineref5_edge.f
 rw [show wrap64 (2 * a6) = 2 * a6 by unfold wrap64; omega, show wrap64 (2 * a6 * a2) = 2 * a6 * a2 by unfold wrap64; omega, up_eq (by omega) (by omega)]
 simp only [Option.bind_some]
 have := Eg_bd h1 h2 h3 h4
 unfold Eg at *
 rw [show wrap64 (up (2 * a6 * a2) + 1) = up (2 * a6 * a2) + 1 by unfold wrap64; omega]
theorem out_eq (P : List S60) (L : List S37) {a2 a3 a4 a5 a6 a7 a8 a9 a10 a11 a12 : Int} (k : Nat) (h1 : 1000 ≤ a2) (h2 : a2 ≤ 1000000) (h3 : 0 ≤ a6) (h4 : a6 ≤ 500) (h5 : 0 ≤ a7) (h6 : a7 ≤ 400000) (h7 : 1 ≤ a8) (h8 : a8 ≤ 200) (h9 : 0 ≤ a9) (h10 : a9 ≤ 20) :
  drumlineref5_out.f (k + 4) P L a2 a3 a4 a5 a6 a7 a8 a9 a10 a11 a12 = some 0 := by
 unfold drumlineref5_out.f
 rw [if_neg (by omega), show decide (a2 > 1000000) = false from decide_eq_false (by omega), drumlineref5_out.j0, if_neg (by decide), if_neg (by omega), show decide (a6 > 500) = false from decide_eq_false (by omega), drumlineref5_out.j1, if_neg (by decide), if_neg (by omega), show decide (a7 > 400000) = false from decide_eq_false (by omega), drumlineref5_out.j2, if_neg (by decide), if_neg (by omega), show decide (a8 > 200) = false from decide_eq_false (by omega), drumlineref5_out.j3, if_neg (by decide), if_neg (by omega), if_neg (by omega)]
theorem Edge_eq (q s : Nat) {a2 a3 a4 a5 a6 a7 a8 a9 a10 a11 a12 : Int} (g1 : 1 ≤ q) (g4 : q ≤ 4) (g3 : s ≤ 3) (h1 : 0 ≤ a6) (h2 : a6 ≤ 140) (h3 : 20000 ≤ a2) (h4 : a2 ≤ 27000) (h5 : 0 ≤ a7) (h6 : a7 ≤ 400000) (h7 : 1 ≤ a8) (h8 : a8 ≤ 200) (h9 : 0 ≤ a9) (h10 : a9 ≤ 20) :
  drumlineref5_Edge.f 100 (madeNet q s).1 (madeNet q s).2 a2 a3 a4 a5 a6 a7 a8 a9 a10 a11 a12 = some (Eg a6 a2) := by
 unfold drumlineref5_Edge.f drumlineref5_ranged.f
 rw [good_made a2 a3 a4 a5 a6 a7 a8 a9 a10 a11 a12 q s g1 g4 g3]
 simp only [Option.bind_some, if_true]
 rw [show drumlineref5_out.f 100 (madeNet q s).1 (madeNet q s).2 a2 a3 a4 a5 a6 a7 a8 a9 a10 a11 a12 = some 0 from out_eq _ _ 96 (by omega) (by omega) h1 (by omega) h5 h6 h7 h8 h9 h10]
 simp only [Option.bind_some, beq_self_eq_true, if_true]
 rw [edge_eq _ _ h1 h2 h3 h4]
 rfl
theorem made_eq (n : Int) : ∃ (q s : Nat) (cyc dr ag lo li sp : Int), 1 ≤ q ∧ q ≤ 4 ∧ s ≤ 3 ∧ 20000 ≤ cyc ∧ cyc ≤ 27000 ∧ 0 ≤ dr ∧ dr ≤ 140 ∧ 1 ≤ ag ∧ ag ≤ 200 ∧ 0 ≤ lo ∧ lo ≤ 20 ∧
  drumlineref26_Made.f n = some ((madeNet q s).1, (madeNet q s).2, cyc, 60, 100, 3 * Eg dr cyc, dr, 300000, ag, lo, li, sp, 12) := by
 have hk : 0 ≤ (((1 + n % 65536 % 4).toNat : Int) - 1) * (n % 65536 / 1024 % 2 + 1) ∧ (((1 + n % 65536 % 4).toNat : Int) - 1) * (n % 65536 / 1024 % 2 + 1) ≤ 8 := by
  rcases (show n % 65536 / 1024 % 2 = 0 ∨ n % 65536 / 1024 % 2 = 1 by omega) with h | h <;> rw [h] <;> omega
 refine ⟨(1 + n % 65536 % 4).toNat, (n % 65536 / 4 % 4).toNat, 20000 + 1000 * (n % 65536 / 16 % 8), 20 * (n % 65536 / 128 % 8), (((1 + n % 65536 % 4).toNat : Int) - 1) * (n % 65536 / 1024 % 2 + 1) + 1 + n % 65536 / 2048 % 4, n % 65536 / 1024 % 2, ((1 + n % 65536 % 4).toNat : Int) * (n % 65536 / 1024 % 2 + 1) + 2 + n % 65536 / 8192 % 2, ((1 + n % 65536 % 4).toNat : Int) * (n % 65536 / 1024 % 2 + 1) + 2, by omega, by omega, by omega, by omega, by omega, by omega, by omega, by omega, by omega, by omega, by omega, ?_⟩
 unfold drumlineref26_Made.f
 rw [Edge_eq _ _ (by omega) (by omega) (by omega) (by omega) (by omega) (by omega) (by omega) (by omega) (by omega) (by omega) (by omega) (by omega) (by omega)]
 simp only [Option.bind_some]
 have := Eg_bd (dr := 20 * (n % 65536 / 128 % 8)) (cyc := 20000 + 1000 * (n % 65536 / 16 % 8)) (by omega) (by omega) (by omega) (by omega)
 rw [if_pos (by omega)]
end Go.Proofs.YtkhlndhleiaokaaDoor.MHo
set_option linter.unusedVariables false
set_option linter.unusedSimpArgs false
namespace Go.Proofs.YtkhlndhleiaokaaDoor.Pure
open Go.RowKit Go.Proofs.YtkhlndhleiaokaaDoor.MHo Go.Proofs.YtkhlndhleiaokaaDoorW.PrintWords Go.Proofs.YtkhlndhleiaokaaDoorW.PrintLast Go.Proofs.YtkhlndhleiaokaaDoorW.PrintMore
theorem made_len (q s : Nat) (h1 : 1 ≤ q) (h4 : q ≤ 4) (h3 : s ≤ 3) : (madeNet q s).1.length = q := by
 refine made_cases (X := fun q s => (madeNet q s).1.length = q) ⟨?_, ?_, ?_, ?_, ?_, ?_, ?_, ?_, ?_, ?_, ?_, ?_, ?_, ?_, ?_, ?_⟩ q s h1 h4 h3 <;> rfl
theorem rem_made {a : Int} (h : (Lit.int .u8 a).wf = true) (q s : Nat) (h1 : 1 ≤ q) (h4 : q ≤ 4) (h3 : s ≤ 3) : ∃ x : Nat, x < q ∧ Int.tmod (wrap64 a) ((madeNet q s).1.length : Int) = (x : Int) := by
 have hb : 0 ≤ a ∧ a ≤ 255 := by
  simp [Lit.wf, IntKind.min, IntKind.max, IntKind.signed, IntKind.bits] at h
  omega
 rw [made_len q s h1 h4 h3]
 have hw : wrap64 a = a := by unfold wrap64; omega
 rw [hw, Int.tmod_eq_emod_of_nonneg hb.1]
 have e0 := Int.emod_nonneg a (show (q : Int) ≠ 0 by omega)
 have e1 := Int.emod_lt_of_pos a (show (0 : Int) < q by omega)
 exact ⟨(a % (q : Int)).toNat, by omega, by omega⟩
end Go.Proofs.YtkhlndhleiaokaaDoor.Pure
set_option linter.unusedVariables false
set_option linter.unusedSimpArgs false
namespace Go.Proofs.YtkhlndhleiaokaaDoor.Pure
open Go.RowKit Go.Proofs.YtkhlndhleiaokaaDoor.MHo Go.Proofs.YtkhlndhleiaokaaDoorW.PrintWords Go.Proofs.YtkhlndhleiaokaaDoorW.PrintLast Go.Proofs.YtkhlndhleiaokaaDoorW.PrintMore
theorem HopsWays : drumlinelaw6_HopsWays.Pure := by
 intro a0 a1 a2 a3 w0 w1 w2 w3
 obtain ⟨q, s, cyc, dr, ag, lo, li, sp, hq1, hq4, hs3, c1, c2, d1, d2, g1, g2, l1, l2, hm⟩ := made_eq a0
 refine ⟨200, ?_⟩
 unfold drumlinelaw6_HopsWays.f
 rw [show drumlinelaw6_alive.f 200 = some true by kernel_rfl]
 simp only [Option.bind_some, if_true]
 rw [hm]
 simp only [Option.bind_some]
 generalize 3 * Eg dr cyc = win
 obtain ⟨x, hx, ex⟩ := rem_made w1 q s hq1 hq4 hs3
 rw [ex]
 obtain ⟨y, hy, ey⟩ := rem_made w2 q s hq1 hq4 hs3
 rw [ey]
 obtain ⟨z, hz, ez⟩ := rem_made w3 q s hq1 hq4 hs3
 rw [ez]
 clear hm c1 c2 d1 d2 g1 g2 l1 l2 ex ey ez w0 w1 w2 w3
 rcases (show q = 1 ∨ q = 2 ∨ q = 3 ∨ q = 4 by omega) with rfl | rfl | rfl | rfl
 ·rcases (show s = 0 ∨ s = 1 ∨ s = 2 ∨ s = 3 by omega) with rfl | rfl | rfl | rfl <;> rcases (show x = 0 by omega) with rfl <;> rcases (show y = 0 by omega) with rfl <;> rcases (show z = 0 by omega) with rfl <;> kernel_rfl
 ·rcases (show s = 0 ∨ s = 1 ∨ s = 2 ∨ s = 3 by omega) with rfl | rfl | rfl | rfl <;> rcases (show x = 0 ∨ x = 1 by omega) with rfl | rfl <;> rcases (show y = 0 ∨ y = 1 by omega) with rfl | rfl <;> rcases (show z = 0 ∨ z = 1 by omega) with rfl | rfl <;> kernel_rfl
 ·rcases (show s = 0 ∨ s = 1 ∨ s = 2 ∨ s = 3 by omega) with rfl | rfl | rfl | rfl <;> rcases (show x = 0 ∨ x = 1 ∨ x = 2 by omega) with rfl | rfl | rfl <;> rcases (show y = 0 ∨ y = 1 ∨ y = 2 by omega) with rfl | rfl | rfl <;> rcases (show z = 0 ∨ z = 1 ∨ z = 2 by omega) with rfl | rfl | rfl <;> kernel_rfl
 ·rcases (show s = 0 ∨ s = 1 ∨ s = 2 ∨ s = 3 by omega) with rfl | rfl | rfl | rfl <;> rcases (show x = 0 ∨ x = 1 ∨ x = 2 ∨ x = 3 by omega) with rfl | rfl | rfl | rfl <;> rcases (show y = 0 ∨ y = 1 ∨ y = 2 ∨ y = 3 by omega) with rfl | rfl | rfl | rfl <;> rcases (show z = 0 ∨ z = 1 ∨ z = 2 ∨ z = 3 by omega) with rfl | rfl | rfl | rfl <;> kernel_rfl
end Go.Proofs.YtkhlndhleiaokaaDoor.Pure
