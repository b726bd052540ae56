/- Texts that HopsMade leans on, laid together by a program (wip/d/merge.py): MHox62, PuNet, PuNm, PuRem, PuHopsMade. -/
import Derived.Test.YtkhlndhleiaokaaDoorZHopsMade1
import Derived.Test.YtkhlndhleiaokaaDoorZHopsMade3
import Derived.Test.YtkhlndhleiaokaaDoorZHopsMade5
import Derived.Test.YtkhlndhleiaokaaDoorZHopsMade6
import Derived.Test.YtkhlndhleiaokaaDoorZHopsMade8
import Derived.Test.YtkhlndhleiaokaaDoorZHopsMade7
namespace Go.Proofs.YtkhlndhleiaokaaDoor.MHo
open Go.RowKit Go.Proofs.YtkhlndhleiaokaaDoorW.PrintWords Go.Proofs.YtkhlndhleiaokaaDoorW.PrintLast Go.Proofs.YtkhlndhleiaokaaDoorW.PrintMore
attribute [local go_sem] mp_u32s mp_u32m mp_u8s mp_u8m max2_int min2_int max_two min_two max_three min_three max_four min_four
set_option linter.unusedVariables false
set_option linter.unusedSimpArgs false
def drumlinelaw6_HopsMade.f (k : Nat) (a0 : Int) (a1 : Int) (a2 : Int) : Option (Bool) := (drumlinelaw6_alive.f k).bind fun t327 => (if t327 = true then ((drumlineref26_Made.f a0).bind fun bt328 => (if (bt328.1.length : Int) = 0 then (none) else ((hops_Dist.f k bt328.1 bt328.2.1 bt328.2.2.1 bt328.2.2.2.1 bt328.2.2.2.2.1 bt328.2.2.2.2.2.1 bt328.2.2.2.2.2.2.1 bt328.2.2.2.2.2.2.2.1 bt328.2.2.2.2.2.2.2.2.1 bt328.2.2.2.2.2.2.2.2.2.1 bt328.2.2.2.2.2.2.2.2.2.2.1 bt328.2.2.2.2.2.2.2.2.2.2.2.1 bt328.2.2.2.2.2.2.2.2.2.2.2.2 (Int.tmod (wrap64 (a1)) (bt328.1.length : Int)) (Int.tmod (wrap64 (a2)) (bt328.1.length : Int))).bind fun t346 => ((drumlineref5_Dist.f k bt328.1 bt328.2.1 bt328.2.2.1 bt328.2.2.2.1 bt328.2.2.2.2.1 bt328.2.2.2.2.2.1 bt328.2.2.2.2.2.2.1 bt328.2.2.2.2.2.2.2.1 bt328.2.2.2.2.2.2.2.2.1 bt328.2.2.2.2.2.2.2.2.2.1 bt328.2.2.2.2.2.2.2.2.2.2.1 bt328.2.2.2.2.2.2.2.2.2.2.2.1 bt328.2.2.2.2.2.2.2.2.2.2.2.2 (Int.tmod (wrap64 (a1)) (bt328.1.length : Int)) (Int.tmod (wrap64 (a2)) (bt328.1.length : Int))).bind fun t347 => (if t346 = t347 then ((hops_Next.f bt328.1 bt328.2.1 bt328.2.2.1 bt328.2.2.2.1 bt328.2.2.2.2.1 bt328.2.2.2.2.2.1 bt328.2.2.2.2.2.2.1 bt328.2.2.2.2.2.2.2.1 bt328.2.2.2.2.2.2.2.2.1 bt328.2.2.2.2.2.2.2.2.2.1 bt328.2.2.2.2.2.2.2.2.2.2.1 bt328.2.2.2.2.2.2.2.2.2.2.2.1 bt328.2.2.2.2.2.2.2.2.2.2.2.2 (Int.tmod (wrap64 (a1)) (bt328.1.length : Int)) (Int.tmod (wrap64 (a2)) (bt328.1.length : Int))).bind fun t348 => ((drumlineref5_Next.f k bt328.1 bt328.2.1 bt328.2.2.1 bt328.2.2.2.1 bt328.2.2.2.2.1 bt328.2.2.2.2.2.1 bt328.2.2.2.2.2.2.1 bt328.2.2.2.2.2.2.2.1 bt328.2.2.2.2.2.2.2.2.1 bt328.2.2.2.2.2.2.2.2.2.1 bt328.2.2.2.2.2.2.2.2.2.2.1 bt328.2.2.2.2.2.2.2.2.2.2.2.1 bt328.2.2.2.2.2.2.2.2.2.2.2.2 (Int.tmod (wrap64 (a1)) (bt328.1.length : Int)) (Int.tmod (wrap64 (a2)) (bt328.1.length : Int))).bind fun t349 => (if t348 = t349 then ((hops_Way.f k bt328.1 bt328.2.1 bt328.2.2.1 bt328.2.2.2.1 bt328.2.2.2.2.1 bt328.2.2.2.2.2.1 bt328.2.2.2.2.2.2.1 bt328.2.2.2.2.2.2.2.1 bt328.2.2.2.2.2.2.2.2.1 bt328.2.2.2.2.2.2.2.2.2.1 bt328.2.2.2.2.2.2.2.2.2.2.1 bt328.2.2.2.2.2.2.2.2.2.2.2.1 bt328.2.2.2.2.2.2.2.2.2.2.2.2 (Int.tmod (wrap64 (a1)) (bt328.1.length : Int)) (Int.tmod (wrap64 (a2)) (bt328.1.length : Int))).bind fun t350 => ((drumlineref5_Way.f k bt328.1 bt328.2.1 bt328.2.2.1 bt328.2.2.2.1 bt328.2.2.2.2.1 bt328.2.2.2.2.2.1 bt328.2.2.2.2.2.2.1 bt328.2.2.2.2.2.2.2.1 bt328.2.2.2.2.2.2.2.2.1 bt328.2.2.2.2.2.2.2.2.2.1 bt328.2.2.2.2.2.2.2.2.2.2.1 bt328.2.2.2.2.2.2.2.2.2.2.2.1 bt328.2.2.2.2.2.2.2.2.2.2.2.2 (Int.tmod (wrap64 (a1)) (bt328.1.length : Int)) (Int.tmod (wrap64 (a2)) (bt328.1.length : Int))).bind fun t353 => ((drumlineref1_SameInts.f k t350 t353).bind fun t356 => (if t356 = true then ((hops_Width.f k bt328.1 bt328.2.1 bt328.2.2.1 bt328.2.2.2.1 bt328.2.2.2.2.1 bt328.2.2.2.2.2.1 bt328.2.2.2.2.2.2.1 bt328.2.2.2.2.2.2.2.1 bt328.2.2.2.2.2.2.2.2.1 bt328.2.2.2.2.2.2.2.2.2.1 bt328.2.2.2.2.2.2.2.2.2.2.1 bt328.2.2.2.2.2.2.2.2.2.2.2.1 bt328.2.2.2.2.2.2.2.2.2.2.2.2).bind fun t357 => ((drumlineref5_Width.f k bt328.1 bt328.2.1 bt328.2.2.1 bt328.2.2.2.1 bt328.2.2.2.2.1 bt328.2.2.2.2.2.1 bt328.2.2.2.2.2.2.1 bt328.2.2.2.2.2.2.2.1 bt328.2.2.2.2.2.2.2.2.1 bt328.2.2.2.2.2.2.2.2.2.1 bt328.2.2.2.2.2.2.2.2.2.2.1 bt328.2.2.2.2.2.2.2.2.2.2.2.1 bt328.2.2.2.2.2.2.2.2.2.2.2.2).bind fun t358 => (some (t357 == t358)))) else (some false))))) else (some false)))) else (some false)))))) else (some false))
theorem drumlinelaw6_HopsMade.mono : ∀ a0 a1 a2 k, LeO (drumlinelaw6_HopsMade.f k a0 a1 a2) (drumlinelaw6_HopsMade.f (k + 1) a0 a1 a2) := by
 intro a0 a1 a2 k
 unfold drumlinelaw6_HopsMade.f
 repeat' first
   | (with_reducible exact drumlinelaw6_alive.mono _)
   | (with_reducible exact drumlineref1_SameInts.mono _ _ _)
   | (with_reducible exact drumlineref5_Dist.mono _ _ _ _ _ _ _ _ _ _ _ _ _ _ _ _)
   | (with_reducible exact drumlineref5_Next.mono _ _ _ _ _ _ _ _ _ _ _ _ _ _ _ _)
   | (with_reducible exact drumlineref5_Way.mono _ _ _ _ _ _ _ _ _ _ _ _ _ _ _ _)
   | (with_reducible exact drumlineref5_Width.mono _ _ _ _ _ _ _ _ _ _ _ _ _ _)
   | (with_reducible exact hops_Dist.mono _ _ _ _ _ _ _ _ _ _ _ _ _ _ _ _)
   | (with_reducible exact hops_Way.mono _ _ _ _ _ _ _ _ _ _ _ _ _ _ _ _)
   | (with_reducible exact hops_Width.mono _ _ _ _ _ _ _ _ _ _ _ _ _ _)
   | (with_reducible exact LeO.refl _)
   | (with_reducible exact LeO.none _)
   | (with_reducible refine LeO.ite ?_ ?_)
   | (with_reducible refine LeO.bind ?_ (fun _ => ?_))
   | exact drumlinelaw6_alive.mono _
   | exact drumlineref1_SameInts.mono _ _ _
   | exact drumlineref5_Dist.mono _ _ _ _ _ _ _ _ _ _ _ _ _ _ _ _
   | exact drumlineref5_Next.mono _ _ _ _ _ _ _ _ _ _ _ _ _ _ _ _
   | exact drumlineref5_Way.mono _ _ _ _ _ _ _ _ _ _ _ _ _ _ _ _
   | exact drumlineref5_Width.mono _ _ _ _ _ _ _ _ _ _ _ _ _ _
   | exact hops_Dist.mono _ _ _ _ _ _ _ _ _ _ _ _ _ _ _ _
   | exact hops_Way.mono _ _ _ _ _ _ _ _ _ _ _ _ _ _ _ _
   | exact hops_Width.mono _ _ _ _ _ _ _ _ _ _ _ _ _ _
   | exact LeO.none _
   | refine LeO.ite ?_ ?_
   | refine LeO.bind ?_ (fun _ => ?_)
def drumlinelaw6_HopsMade.T4 : Bool × List (List Nat × List Nat) := (true, [([], []), ([0], [0]), ([], []), ([2], [2]), ([3], [3]), ([1, 4], [1, 4]), ([], []), ([6], [6]), ([], []), ([8], [8]), ([9], [9]), ([7, 10], [7, 10]), ([5, 0, 1, 2, 3, 4, 5], [5]), ([11, 12, 0, 1, 2, 3, 4, 5, 6, 7, 8, 9, 10, 11, 12], [11])])
def drumlinelaw6_HopsMade.B4 : List Nat := [0, 1, 0, 4, 12, 31, 0, 64, 0, 256, 768, 1984, 63, 8191]
theorem drumlinelaw6_HopsMade.tab4 : rtab .any (opsOf Tryd.f4 4) = drumlinelaw6_HopsMade.T4 := by kernel_rfl
theorem drumlinelaw6_HopsMade.bits4 : waitsOk drumlinelaw6_HopsMade.T4.2 drumlinelaw6_HopsMade.B4 = true := by kernel_rfl
def drumlinelaw6_HopsMade.T5 : Bool × List (List Nat × List Nat) := (true, [([], []), ([], []), ([], []), ([0, 1, 2], [0, 1, 2]), ([], []), ([], []), ([], []), ([4, 5, 6, 3], [4, 5, 6]), ([3, 7], [3, 7]), ([8, 7], [8]), ([9], [9]), ([9], [9]), ([9], [9]), ([10, 11, 12, 9, 9], [9, 10, 11, 12]), ([9], [9]), ([9], [9]), ([9], [9]), ([14, 15, 16, 13, 9], [9, 14, 15, 16]), ([13, 17, 9], [9, 13, 17]), ([9, 18], [9, 18]), ([19, 17], [19]), ([20], [20]), ([20], [20]), ([20], [20]), ([21, 22, 23, 20, 20], [20, 21, 22, 23]), ([20], [20]), ([20], [20]), ([20], [20]), ([25, 26, 27, 24, 20], [20, 25, 26, 27]), ([24, 28, 28, 20], [20, 24, 28]), ([20, 29], [20, 29]), ([30, 29], [30]), ([31], [31]), ([32, 31, 31], [31, 32]), ([31], [31]), ([34, 33, 31], [31, 34]), ([33, 35, 31], [31, 33, 35]), ([31, 36], [31, 36]), ([37, 35, 0, 1, 2, 3, 4, 5, 6, 7, 8, 9, 10, 11, 12, 13, 14, 15, 16, 17, 18, 19, 20, 21, 22, 23, 24, 25, 26, 27, 28, 29, 30, 31, 32, 33, 34, 35, 36, 37], [37])])
def drumlinelaw6_HopsMade.B5 : List Nat := [0, 0, 0, 7, 0, 0, 0, 127, 255, 511, 1023, 1023, 1023, 8191, 1023, 1023, 1023, 131071, 262143, 524287, 1048575, 2097151, 2097151, 2097151, 16777215, 2097151, 2097151, 2097151, 268435455, 536870911, 1073741823, 2147483647, 4294967295, 8589934591, 4294967295, 34359738367, 68719476735, 137438953471, 274877906943]
theorem drumlinelaw6_HopsMade.tab5 : rtab .any (opsOf Tryd.f4 5) = drumlinelaw6_HopsMade.T5 := by kernel_rfl
theorem drumlinelaw6_HopsMade.bits5 : waitsOk drumlinelaw6_HopsMade.T5.2 drumlinelaw6_HopsMade.B5 = true := by kernel_rfl
set_option maxHeartbeats 8000000 in
set_option maxRecDepth 100000 in
theorem drumlinelaw6_HopsMade.calls (k : Nat) (a0 : Int) (a1 : Int) (a2 : Int) (r : Bool) (w : World) (h : drumlinelaw6_HopsMade.f k a0 a1 a2 = some r) (hr : r = true) :
  Calls Tryd.prog 4 #[.int .i64 a0, .int .u8 a1, .int .u8 a2] w fun e w' => e = .returned (.bool r) ∧ Below w.heap.size w w' := by
 have hu25 := Tryd.underlying25
 have HB := Aside0.mk (Below.refl w.heap.size w)
 have H : ((drumlinelaw6_alive.f k).bind fun t327 => (if t327 = true then ((drumlineref26_Made.f a0).bind fun bt328 => (if (bt328.1.length : Int) = 0 then (none) else ((hops_Dist.f k bt328.1 bt328.2.1 bt328.2.2.1 bt328.2.2.2.1 bt328.2.2.2.2.1 bt328.2.2.2.2.2.1 bt328.2.2.2.2.2.2.1 bt328.2.2.2.2.2.2.2.1 bt328.2.2.2.2.2.2.2.2.1 bt328.2.2.2.2.2.2.2.2.2.1 bt328.2.2.2.2.2.2.2.2.2.2.1 bt328.2.2.2.2.2.2.2.2.2.2.2.1 bt328.2.2.2.2.2.2.2.2.2.2.2.2 (Int.tmod (wrap64 (a1)) (bt328.1.length : Int)) (Int.tmod (wrap64 (a2)) (bt328.1.length : Int))).bind fun t346 => ((drumlineref5_Dist.f k bt328.1 bt328.2.1 bt328.2.2.1 bt328.2.2.2.1 bt328.2.2.2.2.1 bt328.2.2.2.2.2.1 bt328.2.2.2.2.2.2.1 bt328.2.2.2.2.2.2.2.1 bt328.2.2.2.2.2.2.2.2.1 bt328.2.2.2.2.2.2.2.2.2.1 bt328.2.2.2.2.2.2.2.2.2.2.1 bt328.2.2.2.2.2.2.2.2.2.2.2.1 bt328.2.2.2.2.2.2.2.2.2.2.2.2 (Int.tmod (wrap64 (a1)) (bt328.1.length : Int)) (Int.tmod (wrap64 (a2)) (bt328.1.length : Int))).bind fun t347 => (if t346 = t347 then ((hops_Next.f bt328.1 bt328.2.1 bt328.2.2.1 bt328.2.2.2.1 bt328.2.2.2.2.1 bt328.2.2.2.2.2.1 bt328.2.2.2.2.2.2.1 bt328.2.2.2.2.2.2.2.1 bt328.2.2.2.2.2.2.2.2.1 bt328.2.2.2.2.2.2.2.2.2.1 bt328.2.2.2.2.2.2.2.2.2.2.1 bt328.2.2.2.2.2.2.2.2.2.2.2.1 bt328.2.2.2.2.2.2.2.2.2.2.2.2 (Int.tmod (wrap64 (a1)) (bt328.1.length : Int)) (Int.tmod (wrap64 (a2)) (bt328.1.length : Int))).bind fun t348 => ((drumlineref5_Next.f k bt328.1 bt328.2.1 bt328.2.2.1 bt328.2.2.2.1 bt328.2.2.2.2.1 bt328.2.2.2.2.2.1 bt328.2.2.2.2.2.2.1 bt328.2.2.2.2.2.2.2.1 bt328.2.2.2.2.2.2.2.2.1 bt328.2.2.2.2.2.2.2.2.2.1 bt328.2.2.2.2.2.2.2.2.2.2.1 bt328.2.2.2.2.2.2.2.2.2.2.2.1 bt328.2.2.2.2.2.2.2.2.2.2.2.2 (Int.tmod (wrap64 (a1)) (bt328.1.length : Int)) (Int.tmod (wrap64 (a2)) (bt328.1.length : Int))).bind fun t349 => (if t348 = t349 then ((hops_Way.f k bt328.1 bt328.2.1 bt328.2.2.1 bt328.2.2.2.1 bt328.2.2.2.2.1 bt328.2.2.2.2.2.1 bt328.2.2.2.2.2.2.1 bt328.2.2.2.2.2.2.2.1 bt328.2.2.2.2.2.2.2.2.1 bt328.2.2.2.2.2.2.2.2.2.1 bt328.2.2.2.2.2.2.2.2.2.2.1 bt328.2.2.2.2.2.2.2.2.2.2.2.1 bt328.2.2.2.2.2.2.2.2.2.2.2.2 (Int.tmod (wrap64 (a1)) (bt328.1.length : Int)) (Int.tmod (wrap64 (a2)) (bt328.1.length : Int))).bind fun t350 => ((drumlineref5_Way.f k bt328.1 bt328.2.1 bt328.2.2.1 bt328.2.2.2.1 bt328.2.2.2.2.1 bt328.2.2.2.2.2.1 bt328.2.2.2.2.2.2.1 bt328.2.2.2.2.2.2.2.1 bt328.2.2.2.2.2.2.2.2.1 bt328.2.2.2.2.2.2.2.2.2.1 bt328.2.2.2.2.2.2.2.2.2.2.1 bt328.2.2.2.2.2.2.2.2.2.2.2.1 bt328.2.2.2.2.2.2.2.2.2.2.2.2 (Int.tmod (wrap64 (a1)) (bt328.1.length : Int)) (Int.tmod (wrap64 (a2)) (bt328.1.length : Int))).bind fun t353 => ((drumlineref1_SameInts.f k t350 t353).bind fun t356 => (if t356 = true then ((hops_Width.f k bt328.1 bt328.2.1 bt328.2.2.1 bt328.2.2.2.1 bt328.2.2.2.2.1 bt328.2.2.2.2.2.1 bt328.2.2.2.2.2.2.1 bt328.2.2.2.2.2.2.2.1 bt328.2.2.2.2.2.2.2.2.1 bt328.2.2.2.2.2.2.2.2.2.1 bt328.2.2.2.2.2.2.2.2.2.2.1 bt328.2.2.2.2.2.2.2.2.2.2.2.1 bt328.2.2.2.2.2.2.2.2.2.2.2.2).bind fun t357 => ((drumlineref5_Width.f k bt328.1 bt328.2.1 bt328.2.2.1 bt328.2.2.2.1 bt328.2.2.2.2.1 bt328.2.2.2.2.2.1 bt328.2.2.2.2.2.2.1 bt328.2.2.2.2.2.2.2.1 bt328.2.2.2.2.2.2.2.2.1 bt328.2.2.2.2.2.2.2.2.2.1 bt328.2.2.2.2.2.2.2.2.2.2.1 bt328.2.2.2.2.2.2.2.2.2.2.2.1 bt328.2.2.2.2.2.2.2.2.2.2.2.2).bind fun t358 => (some (t357 == t358)))) else (some false))))) else (some false)))) else (some false)))))) else (some false))) = some r := h
 clear h
 replace H := Option.bind_eq_some_iff.mp H
 obtain ⟨t327, A40, H⟩ := H
 replace H : (if t327 = true then ((drumlineref26_Made.f a0).bind fun bt328 => (if (bt328.1.length : Int) = 0 then (none) else ((hops_Dist.f k bt328.1 bt328.2.1 bt328.2.2.1 bt328.2.2.2.1 bt328.2.2.2.2.1 bt328.2.2.2.2.2.1 bt328.2.2.2.2.2.2.1 bt328.2.2.2.2.2.2.2.1 bt328.2.2.2.2.2.2.2.2.1 bt328.2.2.2.2.2.2.2.2.2.1 bt328.2.2.2.2.2.2.2.2.2.2.1 bt328.2.2.2.2.2.2.2.2.2.2.2.1 bt328.2.2.2.2.2.2.2.2.2.2.2.2 (Int.tmod (wrap64 (a1)) (bt328.1.length : Int)) (Int.tmod (wrap64 (a2)) (bt328.1.length : Int))).bind fun t346 => ((drumlineref5_Dist.f k bt328.1 bt328.2.1 bt328.2.2.1 bt328.2.2.2.1 bt328.2.2.2.2.1 bt328.2.2.2.2.2.1 bt328.2.2.2.2.2.2.1 bt328.2.2.2.2.2.2.2.1 bt328.2.2.2.2.2.2.2.2.1 bt328.2.2.2.2.2.2.2.2.2.1 bt328.2.2.2.2.2.2.2.2.2.2.1 bt328.2.2.2.2.2.2.2.2.2.2.2.1 bt328.2.2.2.2.2.2.2.2.2.2.2.2 (Int.tmod (wrap64 (a1)) (bt328.1.length : Int)) (Int.tmod (wrap64 (a2)) (bt328.1.length : Int))).bind fun t347 => (if t346 = t347 then ((hops_Next.f bt328.1 bt328.2.1 bt328.2.2.1 bt328.2.2.2.1 bt328.2.2.2.2.1 bt328.2.2.2.2.2.1 bt328.2.2.2.2.2.2.1 bt328.2.2.2.2.2.2.2.1 bt328.2.2.2.2.2.2.2.2.1 bt328.2.2.2.2.2.2.2.2.2.1 bt328.2.2.2.2.2.2.2.2.2.2.1 bt328.2.2.2.2.2.2.2.2.2.2.2.1 bt328.2.2.2.2.2.2.2.2.2.2.2.2 (Int.tmod (wrap64 (a1)) (bt328.1.length : Int)) (Int.tmod (wrap64 (a2)) (bt328.1.length : Int))).bind fun t348 => ((drumlineref5_Next.f k bt328.1 bt328.2.1 bt328.2.2.1 bt328.2.2.2.1 bt328.2.2.2.2.1 bt328.2.2.2.2.2.1 bt328.2.2.2.2.2.2.1 bt328.2.2.2.2.2.2.2.1 bt328.2.2.2.2.2.2.2.2.1 bt328.2.2.2.2.2.2.2.2.2.1 bt328.2.2.2.2.2.2.2.2.2.2.1 bt328.2.2.2.2.2.2.2.2.2.2.2.1 bt328.2.2.2.2.2.2.2.2.2.2.2.2 (Int.tmod (wrap64 (a1)) (bt328.1.length : Int)) (Int.tmod (wrap64 (a2)) (bt328.1.length : Int))).bind fun t349 => (if t348 = t349 then ((hops_Way.f k bt328.1 bt328.2.1 bt328.2.2.1 bt328.2.2.2.1 bt328.2.2.2.2.1 bt328.2.2.2.2.2.1 bt328.2.2.2.2.2.2.1 bt328.2.2.2.2.2.2.2.1 bt328.2.2.2.2.2.2.2.2.1 bt328.2.2.2.2.2.2.2.2.2.1 bt328.2.2.2.2.2.2.2.2.2.2.1 bt328.2.2.2.2.2.2.2.2.2.2.2.1 bt328.2.2.2.2.2.2.2.2.2.2.2.2 (Int.tmod (wrap64 (a1)) (bt328.1.length : Int)) (Int.tmod (wrap64 (a2)) (bt328.1.length : Int))).bind fun t350 => ((drumlineref5_Way.f k bt328.1 bt328.2.1 bt328.2.2.1 bt328.2.2.2.1 bt328.2.2.2.2.1 bt328.2.2.2.2.2.1 bt328.2.2.2.2.2.2.1 bt328.2.2.2.2.2.2.2.1 bt328.2.2.2.2.2.2.2.2.1 bt328.2.2.2.2.2.2.2.2.2.1 bt328.2.2.2.2.2.2.2.2.2.2.1 bt328.2.2.2.2.2.2.2.2.2.2.2.1 bt328.2.2.2.2.2.2.2.2.2.2.2.2 (Int.tmod (wrap64 (a1)) (bt328.1.length : Int)) (Int.tmod (wrap64 (a2)) (bt328.1.length : Int))).bind fun t353 => ((drumlineref1_SameInts.f k t350 t353).bind fun t356 => (if t356 = true then ((hops_Width.f k bt328.1 bt328.2.1 bt328.2.2.1 bt328.2.2.2.1 bt328.2.2.2.2.1 bt328.2.2.2.2.2.1 bt328.2.2.2.2.2.2.1 bt328.2.2.2.2.2.2.2.1 bt328.2.2.2.2.2.2.2.2.1 bt328.2.2.2.2.2.2.2.2.2.1 bt328.2.2.2.2.2.2.2.2.2.2.1 bt328.2.2.2.2.2.2.2.2.2.2.2.1 bt328.2.2.2.2.2.2.2.2.2.2.2.2).bind fun t357 => ((drumlineref5_Width.f k bt328.1 bt328.2.1 bt328.2.2.1 bt328.2.2.2.1 bt328.2.2.2.2.1 bt328.2.2.2.2.2.1 bt328.2.2.2.2.2.2.1 bt328.2.2.2.2.2.2.2.1 bt328.2.2.2.2.2.2.2.2.1 bt328.2.2.2.2.2.2.2.2.2.1 bt328.2.2.2.2.2.2.2.2.2.2.1 bt328.2.2.2.2.2.2.2.2.2.2.2.1 bt328.2.2.2.2.2.2.2.2.2.2.2.2).bind fun t358 => (some (t357 == t358)))) else (some false))))) else (some false)))) else (some false)))))) else (some false)) = some r := H
 have A4 := Aside0.mk A40
 clear A40
 by_cases c5 : t327 = true
 ·subst c5
  have H1 : ((drumlineref26_Made.f a0).bind fun bt328 => (if (bt328.1.length : Int) = 0 then (none) else ((hops_Dist.f k bt328.1 bt328.2.1 bt328.2.2.1 bt328.2.2.2.1 bt328.2.2.2.2.1 bt328.2.2.2.2.2.1 bt328.2.2.2.2.2.2.1 bt328.2.2.2.2.2.2.2.1 bt328.2.2.2.2.2.2.2.2.1 bt328.2.2.2.2.2.2.2.2.2.1 bt328.2.2.2.2.2.2.2.2.2.2.1 bt328.2.2.2.2.2.2.2.2.2.2.2.1 bt328.2.2.2.2.2.2.2.2.2.2.2.2 (Int.tmod (wrap64 (a1)) (bt328.1.length : Int)) (Int.tmod (wrap64 (a2)) (bt328.1.length : Int))).bind fun t346 => ((drumlineref5_Dist.f k bt328.1 bt328.2.1 bt328.2.2.1 bt328.2.2.2.1 bt328.2.2.2.2.1 bt328.2.2.2.2.2.1 bt328.2.2.2.2.2.2.1 bt328.2.2.2.2.2.2.2.1 bt328.2.2.2.2.2.2.2.2.1 bt328.2.2.2.2.2.2.2.2.2.1 bt328.2.2.2.2.2.2.2.2.2.2.1 bt328.2.2.2.2.2.2.2.2.2.2.2.1 bt328.2.2.2.2.2.2.2.2.2.2.2.2 (Int.tmod (wrap64 (a1)) (bt328.1.length : Int)) (Int.tmod (wrap64 (a2)) (bt328.1.length : Int))).bind fun t347 => (if t346 = t347 then ((hops_Next.f bt328.1 bt328.2.1 bt328.2.2.1 bt328.2.2.2.1 bt328.2.2.2.2.1 bt328.2.2.2.2.2.1 bt328.2.2.2.2.2.2.1 bt328.2.2.2.2.2.2.2.1 bt328.2.2.2.2.2.2.2.2.1 bt328.2.2.2.2.2.2.2.2.2.1 bt328.2.2.2.2.2.2.2.2.2.2.1 bt328.2.2.2.2.2.2.2.2.2.2.2.1 bt328.2.2.2.2.2.2.2.2.2.2.2.2 (Int.tmod (wrap64 (a1)) (bt328.1.length : Int)) (Int.tmod (wrap64 (a2)) (bt328.1.length : Int))).bind fun t348 => ((drumlineref5_Next.f k bt328.1 bt328.2.1 bt328.2.2.1 bt328.2.2.2.1 bt328.2.2.2.2.1 bt328.2.2.2.2.2.1 bt328.2.2.2.2.2.2.1 bt328.2.2.2.2.2.2.2.1 bt328.2.2.2.2.2.2.2.2.1 bt328.2.2.2.2.2.2.2.2.2.1 bt328.2.2.2.2.2.2.2.2.2.2.1 bt328.2.2.2.2.2.2.2.2.2.2.2.1 bt328.2.2.2.2.2.2.2.2.2.2.2.2 (Int.tmod (wrap64 (a1)) (bt328.1.length : Int)) (Int.tmod (wrap64 (a2)) (bt328.1.length : Int))).bind fun t349 => (if t348 = t349 then ((hops_Way.f k bt328.1 bt328.2.1 bt328.2.2.1 bt328.2.2.2.1 bt328.2.2.2.2.1 bt328.2.2.2.2.2.1 bt328.2.2.2.2.2.2.1 bt328.2.2.2.2.2.2.2.1 bt328.2.2.2.2.2.2.2.2.1 bt328.2.2.2.2.2.2.2.2.2.1 bt328.2.2.2.2.2.2.2.2.2.2.1 bt328.2.2.2.2.2.2.2.2.2.2.2.1 bt328.2.2.2.2.2.2.2.2.2.2.2.2 (Int.tmod (wrap64 (a1)) (bt328.1.length : Int)) (Int.tmod (wrap64 (a2)) (bt328.1.length : Int))).bind fun t350 => ((drumlineref5_Way.f k bt328.1 bt328.2.1 bt328.2.2.1 bt328.2.2.2.1 bt328.2.2.2.2.1 bt328.2.2.2.2.2.1 bt328.2.2.2.2.2.2.1 bt328.2.2.2.2.2.2.2.1 bt328.2.2.2.2.2.2.2.2.1 bt328.2.2.2.2.2.2.2.2.2.1 bt328.2.2.2.2.2.2.2.2.2.2.1 bt328.2.2.2.2.2.2.2.2.2.2.2.1 bt328.2.2.2.2.2.2.2.2.2.2.2.2 (Int.tmod (wrap64 (a1)) (bt328.1.length : Int)) (Int.tmod (wrap64 (a2)) (bt328.1.length : Int))).bind fun t353 => ((drumlineref1_SameInts.f k t350 t353).bind fun t356 => (if t356 = true then ((hops_Width.f k bt328.1 bt328.2.1 bt328.2.2.1 bt328.2.2.2.1 bt328.2.2.2.2.1 bt328.2.2.2.2.2.1 bt328.2.2.2.2.2.2.1 bt328.2.2.2.2.2.2.2.1 bt328.2.2.2.2.2.2.2.2.1 bt328.2.2.2.2.2.2.2.2.2.1 bt328.2.2.2.2.2.2.2.2.2.2.1 bt328.2.2.2.2.2.2.2.2.2.2.2.1 bt328.2.2.2.2.2.2.2.2.2.2.2.2).bind fun t357 => ((drumlineref5_Width.f k bt328.1 bt328.2.1 bt328.2.2.1 bt328.2.2.2.1 bt328.2.2.2.2.1 bt328.2.2.2.2.2.1 bt328.2.2.2.2.2.2.1 bt328.2.2.2.2.2.2.2.1 bt328.2.2.2.2.2.2.2.2.1 bt328.2.2.2.2.2.2.2.2.2.1 bt328.2.2.2.2.2.2.2.2.2.2.1 bt328.2.2.2.2.2.2.2.2.2.2.2.1 bt328.2.2.2.2.2.2.2.2.2.2.2.2).bind fun t358 => (some (t357 == t358)))) else (some false))))) else (some false)))) else (some false)))))) = some r := by rw [if_pos rfl] at H; exact H
  clear H
  have H := H1
  clear H1
  replace H := Option.bind_eq_some_iff.mp H
  obtain ⟨⟨t328, t331, t334, t335, t336, t337, t338, t339, t340, t341, t342, t343, t344⟩, A60, H⟩ := H
  replace H : (if (t328.length : Int) = 0 then (none) else ((hops_Dist.f k t328 t331 t334 t335 t336 t337 t338 t339 t340 t341 t342 t343 t344 (Int.tmod (wrap64 (a1)) (t328.length : Int)) (Int.tmod (wrap64 (a2)) (t328.length : Int))).bind fun t346 => ((drumlineref5_Dist.f k t328 t331 t334 t335 t336 t337 t338 t339 t340 t341 t342 t343 t344 (Int.tmod (wrap64 (a1)) (t328.length : Int)) (Int.tmod (wrap64 (a2)) (t328.length : Int))).bind fun t347 => (if t346 = t347 then ((hops_Next.f t328 t331 t334 t335 t336 t337 t338 t339 t340 t341 t342 t343 t344 (Int.tmod (wrap64 (a1)) (t328.length : Int)) (Int.tmod (wrap64 (a2)) (t328.length : Int))).bind fun t348 => ((drumlineref5_Next.f k t328 t331 t334 t335 t336 t337 t338 t339 t340 t341 t342 t343 t344 (Int.tmod (wrap64 (a1)) (t328.length : Int)) (Int.tmod (wrap64 (a2)) (t328.length : Int))).bind fun t349 => (if t348 = t349 then ((hops_Way.f k t328 t331 t334 t335 t336 t337 t338 t339 t340 t341 t342 t343 t344 (Int.tmod (wrap64 (a1)) (t328.length : Int)) (Int.tmod (wrap64 (a2)) (t328.length : Int))).bind fun t350 => ((drumlineref5_Way.f k t328 t331 t334 t335 t336 t337 t338 t339 t340 t341 t342 t343 t344 (Int.tmod (wrap64 (a1)) (t328.length : Int)) (Int.tmod (wrap64 (a2)) (t328.length : Int))).bind fun t353 => ((drumlineref1_SameInts.f k t350 t353).bind fun t356 => (if t356 = true then ((hops_Width.f k t328 t331 t334 t335 t336 t337 t338 t339 t340 t341 t342 t343 t344).bind fun t357 => ((drumlineref5_Width.f k t328 t331 t334 t335 t336 t337 t338 t339 t340 t341 t342 t343 t344).bind fun t358 => (some (t357 == t358)))) else (some false))))) else (some false)))) else (some false))))) = some r := H
  have A6 := Aside0.mk A60
  clear A60
  by_cases c7 : (t328.length : Int) = 0
  ·rw [if_pos c7] at H
   exact absurd H (by simp)
  ·rw [if_neg c7] at H
   have c7b0 : ((t328.length : Int) == 0) = false := beq_eq_false_iff_ne.mpr c7
   have c7b1 : ((t328.length : Int) != 0) = true := bne_iff_ne.mpr c7
   have c7b2 : ¬ (t328 = []) := fun h_ => c7 (by rw [h_]; rfl)
   replace H := Option.bind_eq_some_iff.mp H
   obtain ⟨t346, A80, H⟩ := H
   replace H : ((drumlineref5_Dist.f k t328 t331 t334 t335 t336 t337 t338 t339 t340 t341 t342 t343 t344 (Int.tmod (wrap64 (a1)) (t328.length : Int)) (Int.tmod (wrap64 (a2)) (t328.length : Int))).bind fun t347 => (if t346 = t347 then ((hops_Next.f t328 t331 t334 t335 t336 t337 t338 t339 t340 t341 t342 t343 t344 (Int.tmod (wrap64 (a1)) (t328.length : Int)) (Int.tmod (wrap64 (a2)) (t328.length : Int))).bind fun t348 => ((drumlineref5_Next.f k t328 t331 t334 t335 t336 t337 t338 t339 t340 t341 t342 t343 t344 (Int.tmod (wrap64 (a1)) (t328.length : Int)) (Int.tmod (wrap64 (a2)) (t328.length : Int))).bind fun t349 => (if t348 = t349 then ((hops_Way.f k t328 t331 t334 t335 t336 t337 t338 t339 t340 t341 t342 t343 t344 (Int.tmod (wrap64 (a1)) (t328.length : Int)) (Int.tmod (wrap64 (a2)) (t328.length : Int))).bind fun t350 => ((drumlineref5_Way.f k t328 t331 t334 t335 t336 t337 t338 t339 t340 t341 t342 t343 t344 (Int.tmod (wrap64 (a1)) (t328.length : Int)) (Int.tmod (wrap64 (a2)) (t328.length : Int))).bind fun t353 => ((drumlineref1_SameInts.f k t350 t353).bind fun t356 => (if t356 = true then ((hops_Width.f k t328 t331 t334 t335 t336 t337 t338 t339 t340 t341 t342 t343 t344).bind fun t357 => ((drumlineref5_Width.f k t328 t331 t334 t335 t336 t337 t338 t339 t340 t341 t342 t343 t344).bind fun t358 => (some (t357 == t358)))) else (some false))))) else (some false)))) else (some false))) = some r := H
   have A8 := Aside0.mk A80
   clear A80
   replace H := Option.bind_eq_some_iff.mp H
   obtain ⟨t347, A90, H⟩ := H
   replace H : (if t346 = t347 then ((hops_Next.f t328 t331 t334 t335 t336 t337 t338 t339 t340 t341 t342 t343 t344 (Int.tmod (wrap64 (a1)) (t328.length : Int)) (Int.tmod (wrap64 (a2)) (t328.length : Int))).bind fun t348 => ((drumlineref5_Next.f k t328 t331 t334 t335 t336 t337 t338 t339 t340 t341 t342 t343 t344 (Int.tmod (wrap64 (a1)) (t328.length : Int)) (Int.tmod (wrap64 (a2)) (t328.length : Int))).bind fun t349 => (if t348 = t349 then ((hops_Way.f k t328 t331 t334 t335 t336 t337 t338 t339 t340 t341 t342 t343 t344 (Int.tmod (wrap64 (a1)) (t328.length : Int)) (Int.tmod (wrap64 (a2)) (t328.length : Int))).bind fun t350 => ((drumlineref5_Way.f k t328 t331 t334 t335 t336 t337 t338 t339 t340 t341 t342 t343 t344 (Int.tmod (wrap64 (a1)) (t328.length : Int)) (Int.tmod (wrap64 (a2)) (t328.length : Int))).bind fun t353 => ((drumlineref1_SameInts.f k t350 t353).bind fun t356 => (if t356 = true then ((hops_Width.f k t328 t331 t334 t335 t336 t337 t338 t339 t340 t341 t342 t343 t344).bind fun t357 => ((drumlineref5_Width.f k t328 t331 t334 t335 t336 t337 t338 t339 t340 t341 t342 t343 t344).bind fun t358 => (some (t357 == t358)))) else (some false))))) else (some false)))) else (some false)) = some r := H
   have A9 := Aside0.mk A90
   clear A90
   by_cases c10 : t346 = t347
   ·rw [if_pos c10] at H
    have c10b0 : (t346 == t347) = true := beq_iff_eq.mpr c10
    have c10b1 : (t346 != t347) = false := bne_eq_false_iff_eq.mpr c10
    clear c10
    replace H := Option.bind_eq_some_iff.mp H
    obtain ⟨t348, A110, H⟩ := H
    replace H : ((drumlineref5_Next.f k t328 t331 t334 t335 t336 t337 t338 t339 t340 t341 t342 t343 t344 (Int.tmod (wrap64 (a1)) (t328.length : Int)) (Int.tmod (wrap64 (a2)) (t328.length : Int))).bind fun t349 => (if t348 = t349 then ((hops_Way.f k t328 t331 t334 t335 t336 t337 t338 t339 t340 t341 t342 t343 t344 (Int.tmod (wrap64 (a1)) (t328.length : Int)) (Int.tmod (wrap64 (a2)) (t328.length : Int))).bind fun t350 => ((drumlineref5_Way.f k t328 t331 t334 t335 t336 t337 t338 t339 t340 t341 t342 t343 t344 (Int.tmod (wrap64 (a1)) (t328.length : Int)) (Int.tmod (wrap64 (a2)) (t328.length : Int))).bind fun t353 => ((drumlineref1_SameInts.f k t350 t353).bind fun t356 => (if t356 = true then ((hops_Width.f k t328 t331 t334 t335 t336 t337 t338 t339 t340 t341 t342 t343 t344).bind fun t357 => ((drumlineref5_Width.f k t328 t331 t334 t335 t336 t337 t338 t339 t340 t341 t342 t343 t344).bind fun t358 => (some (t357 == t358)))) else (some false))))) else (some false))) = some r := H
    have A11 := Aside0.mk A110
    clear A110
    replace H := Option.bind_eq_some_iff.mp H
    obtain ⟨t349, A120, H⟩ := H
    replace H : (if t348 = t349 then ((hops_Way.f k t328 t331 t334 t335 t336 t337 t338 t339 t340 t341 t342 t343 t344 (Int.tmod (wrap64 (a1)) (t328.length : Int)) (Int.tmod (wrap64 (a2)) (t328.length : Int))).bind fun t350 => ((drumlineref5_Way.f k t328 t331 t334 t335 t336 t337 t338 t339 t340 t341 t342 t343 t344 (Int.tmod (wrap64 (a1)) (t328.length : Int)) (Int.tmod (wrap64 (a2)) (t328.length : Int))).bind fun t353 => ((drumlineref1_SameInts.f k t350 t353).bind fun t356 => (if t356 = true then ((hops_Width.f k t328 t331 t334 t335 t336 t337 t338 t339 t340 t341 t342 t343 t344).bind fun t357 => ((drumlineref5_Width.f k t328 t331 t334 t335 t336 t337 t338 t339 t340 t341 t342 t343 t344).bind fun t358 => (some (t357 == t358)))) else (some false))))) else (some false)) = some r := H
    have A12 := Aside0.mk A120
    clear A120
    by_cases c13 : t348 = t349
    ·rw [if_pos c13] at H
     have c13b0 : (t348 == t349) = true := beq_iff_eq.mpr c13
     have c13b1 : (t348 != t349) = false := bne_eq_false_iff_eq.mpr c13
     clear c13
     replace H := Option.bind_eq_some_iff.mp H
     obtain ⟨t350, A140, H⟩ := H
     replace H : ((drumlineref5_Way.f k t328 t331 t334 t335 t336 t337 t338 t339 t340 t341 t342 t343 t344 (Int.tmod (wrap64 (a1)) (t328.length : Int)) (Int.tmod (wrap64 (a2)) (t328.length : Int))).bind fun t353 => ((drumlineref1_SameInts.f k t350 t353).bind fun t356 => (if t356 = true then ((hops_Width.f k t328 t331 t334 t335 t336 t337 t338 t339 t340 t341 t342 t343 t344).bind fun t357 => ((drumlineref5_Width.f k t328 t331 t334 t335 t336 t337 t338 t339 t340 t341 t342 t343 t344).bind fun t358 => (some (t357 == t358)))) else (some false)))) = some r := H
     have A14 := Aside0.mk A140
     clear A140
     replace H := Option.bind_eq_some_iff.mp H
     obtain ⟨t353, A150, H⟩ := H
     replace H : ((drumlineref1_SameInts.f k t350 t353).bind fun t356 => (if t356 = true then ((hops_Width.f k t328 t331 t334 t335 t336 t337 t338 t339 t340 t341 t342 t343 t344).bind fun t357 => ((drumlineref5_Width.f k t328 t331 t334 t335 t336 t337 t338 t339 t340 t341 t342 t343 t344).bind fun t358 => (some (t357 == t358)))) else (some false))) = some r := H
     have A15 := Aside0.mk A150
     clear A150
     replace H := Option.bind_eq_some_iff.mp H
     obtain ⟨t356, A160, H⟩ := H
     replace H : (if t356 = true then ((hops_Width.f k t328 t331 t334 t335 t336 t337 t338 t339 t340 t341 t342 t343 t344).bind fun t357 => ((drumlineref5_Width.f k t328 t331 t334 t335 t336 t337 t338 t339 t340 t341 t342 t343 t344).bind fun t358 => (some (t357 == t358)))) else (some false)) = some r := H
     have A16 := Aside0.mk A160
     clear A160
     by_cases c17 : t356 = true
     ·subst c17
      have H1 : ((hops_Width.f k t328 t331 t334 t335 t336 t337 t338 t339 t340 t341 t342 t343 t344).bind fun t357 => ((drumlineref5_Width.f k t328 t331 t334 t335 t336 t337 t338 t339 t340 t341 t342 t343 t344).bind fun t358 => (some (t357 == t358)))) = some r := by rw [if_pos rfl] at H; exact H
      clear H
      have H := H1
      clear H1
      replace H := Option.bind_eq_some_iff.mp H
      obtain ⟨t357, A180, H⟩ := H
      replace H : ((drumlineref5_Width.f k t328 t331 t334 t335 t336 t337 t338 t339 t340 t341 t342 t343 t344).bind fun t358 => (some (t357 == t358))) = some r := H
      have A18 := Aside0.mk A180
      clear A180
      replace H := Option.bind_eq_some_iff.mp H
      obtain ⟨t358, A190, H⟩ := H
      replace H : (some (t357 == t358)) = some r := H
      have A19 := Aside0.mk A190
      clear A190
      clear hr
      obtain rfl := Option.some.inj H
      go_enter Tryd.func4, Tryd.ntmps4
      try go_wp2_with (first | ((with_reducible refine gate_callee (f := 10) rfl ?_); refine goesL_ (some 10) rfl rfl Tryd.func10 (by kernel_rfl) rfl #[] rfl (by (try simp only [List.map_toArray, List.map_cons, List.map_nil]); first | done | rfl | (simp only [List.length_drop, List.length_take]; rfl)) ?_; (with_reducible refine (drumlinelaw6_alive.calls k  true _ A4.out).mono ?_); rintro e w20 ⟨rfl, hb⟩; refine ⟨_, rfl, ?_⟩; have n0_ := Aside0.mk (below_step (by repeat (first | (with_reducible first | exact HB.out | apply below_alloc | apply pw_below_drewN | apply below_drew1) | exact HB.out)) hb); clear HB; have HB := n0_; clear n0_; (try clear hb); (try clear hb2); (try clear hk); (try clear hi)) | ((with_reducible refine gate_callee (f := 20) rfl ?_); refine goesL_ (some 13) rfl rfl Tryd.func20 (by kernel_rfl) rfl #[.int .i64 a0] rfl (by (try simp only [List.map_toArray, List.map_cons, List.map_nil]); first | done | rfl | (simp only [List.length_drop, List.length_take]; rfl)) ?_; (with_reducible refine (drumlineref26_Made.calls a0 t328 t331 t334 t335 t336 t337 t338 t339 t340 t341 t342 t343 t344 _ A6.out).mono ?_); rintro e w21 ⟨v329, v332, rfl, ho0, ho1, hb⟩; refine ⟨_, rfl, ?_⟩; have n0_ := Aside0.mk (Kd.R_lower ho0 (below_size (by repeat (first | (with_reducible first | exact HB.out | apply below_alloc | apply pw_below_drewN | apply below_drew1) | exact HB.out)))); have n1_ := Aside0.mk (Kd.R_lower ho1 (below_size (by repeat (first | (with_reducible first | exact HB.out | apply below_alloc | apply pw_below_drewN | apply below_drew1) | exact HB.out)))); have n2_ := Aside0.mk (below_step (by repeat (first | (with_reducible first | exact HB.out | apply below_alloc | apply pw_below_drewN | apply below_drew1) | exact HB.out)) hb); clear HB; have HO330 := n0_; have HO333 := n1_; have HB := n2_; clear n0_ n1_ n2_; (try clear hb); (try clear hb2); (try clear hk); (try clear hi); (try clear ho0); (try clear ho1)) | ((with_reducible refine gate_dst (N := 7) rfl ?_); refine box_event ?hg (N := 7) ?hd (cs := #[.slice none 0 0, .slice none 0 0, .int .i64 0, .int .i64 0, .int .i64 0, .int .i64 0, .int .i64 0, .int .i64 0, .int .i64 0, .int .i64 0, .int .i64 0, .int .i64 0, .int .i64 0]) (t := 25) ?hr ?_; (case hd => rfl); (case hg => rfl); (case hr => first | (go_simp; done) | (go_simp; rfl)); intro gb345 hg w22 hbox hb; have n0_ := Aside0.mk (Kd.R_below (by (with_reducible repeat (first | apply Kd.R_alloc | apply Kd.R_drewN | apply Kd.R_drew)); exact HO330.out) hb); have n1_ := Aside0.mk (Kd.R_below (by (with_reducible repeat (first | apply Kd.R_alloc | apply Kd.R_drewN | apply Kd.R_drew)); exact HO333.out) hb); have n2_ := Aside0.mk (below_step (by repeat (first | (with_reducible first | exact HB.out | apply below_alloc | apply pw_below_drewN | apply below_drew1) | exact HB.out)) hb); have n3_ := Aside0.mk (hbox); have n4_ := Aside0.mk ((by rw [hg]; exact (below_size (by repeat (first | (with_reducible first | exact HB.out | apply below_alloc | apply pw_below_drewN | apply below_drew1) | exact HB.out))) : w.heap.size ≤ gb345)); have n5_ := Aside0.mk ((by rw [hg]; exact (below_size (by repeat (first | (with_reducible first | exact HB.out | apply below_alloc | apply pw_below_drewN | apply below_drew1) | exact HB.out))) : w.heap.size ≤ gb345)); clear HO330; clear HO333; clear HB; have HO330 := n0_; have HO333 := n1_; have HB := n2_; have BK345 := n3_; have GW345 := n4_; have GE345 := n5_; clear n0_ n1_ n2_ n3_ n4_ n5_; clear hb hbox hg; obtain ⟨Ao23, co23, eo23⟩ := Kd.R_slice HO330.out; subst eo23; obtain ⟨hcz24_0, hcz24_1, hcz24_2, hcz24_3, hcz24_4, hcz24_5, hcz24_6, hcz24_7, hcz24_8, hcz24_9, hcz24_10, hcz24_11, hcz24_12⟩ := cellsK13 BK345.out; obtain ⟨hfz24_0, hfz24_1, hfz24_2, hfz24_3, hfz24_4, hfz24_5, hfz24_6, hfz24_7, hfz24_8, hfz24_9, hfz24_10, hfz24_11, hfz24_12⟩ := frozK13 BK345.out; obtain ⟨Ao25, co25, eo25⟩ := Kd.R_slice HO333.out; subst eo25))
      have n0_ : Aside0 (Kd.R k60 60 (((((((((((((w22.setCell ⟨gb345, 0, none⟩ (.slice Ao23 t328.length co23)).setCell ⟨gb345, 1, none⟩ (.slice Ao25 t331.length co25)).setCell ⟨gb345, 2, none⟩ (.int .i64 t334)).setCell ⟨gb345, 3, none⟩ (.int .i64 t335)).setCell ⟨gb345, 4, none⟩ (.int .i64 t336)).setCell ⟨gb345, 5, none⟩ (.int .i64 t337)).setCell ⟨gb345, 6, none⟩ (.int .i64 t338)).setCell ⟨gb345, 7, none⟩ (.int .i64 t339)).setCell ⟨gb345, 8, none⟩ (.int .i64 t340)).setCell ⟨gb345, 9, none⟩ (.int .i64 t341)).setCell ⟨gb345, 10, none⟩ (.int .i64 t342)).setCell ⟨gb345, 11, none⟩ (.int .i64 t343)).setCell ⟨gb345, 12, none⟩ (.int .i64 t344)) w.heap.size (fun _ => True) (.slice Ao23 t328.length co23) t328) := ⟨by (with_reducible repeat (first | apply Kd.R_alloc | apply Kd.R_drewN | apply Kd.R_drew)); exact Kd.R_mono (Kd.R_far (p := ⟨gb345, 12, none⟩) (Kd.R_far (p := ⟨gb345, 11, none⟩) (Kd.R_far (p := ⟨gb345, 10, none⟩) (Kd.R_far (p := ⟨gb345, 9, none⟩) (Kd.R_far (p := ⟨gb345, 8, none⟩) (Kd.R_far (p := ⟨gb345, 7, none⟩) (Kd.R_far (p := ⟨gb345, 6, none⟩) (Kd.R_far (p := ⟨gb345, 5, none⟩) (Kd.R_far (p := ⟨gb345, 4, none⟩) (Kd.R_far (p := ⟨gb345, 3, none⟩) (Kd.R_far (p := ⟨gb345, 2, none⟩) (Kd.R_far (p := ⟨gb345, 1, none⟩) (Kd.R_far (p := ⟨gb345, 0, none⟩) (Kd.R_types HO330.out BK345.out (by decide)) (fun _ hk => hk.2) (.slice Ao23 t328.length co23)) (fun _ hk => hk.2) (.slice Ao25 t331.length co25)) (fun _ hk => hk.2) (.int .i64 t334)) (fun _ hk => hk.2) (.int .i64 t335)) (fun _ hk => hk.2) (.int .i64 t336)) (fun _ hk => hk.2) (.int .i64 t337)) (fun _ hk => hk.2) (.int .i64 t338)) (fun _ hk => hk.2) (.int .i64 t339)) (fun _ hk => hk.2) (.int .i64 t340)) (fun _ hk => hk.2) (.int .i64 t341)) (fun _ hk => hk.2) (.int .i64 t342)) (fun _ hk => hk.2) (.int .i64 t343)) (fun _ hk => hk.2) (.int .i64 t344)) (fun _ hk => trivial)⟩
      have n1_ : Aside0 (Kd.R k37 37 (((((((((((((w22.setCell ⟨gb345, 0, none⟩ (.slice Ao23 t328.length co23)).setCell ⟨gb345, 1, none⟩ (.slice Ao25 t331.length co25)).setCell ⟨gb345, 2, none⟩ (.int .i64 t334)).setCell ⟨gb345, 3, none⟩ (.int .i64 t335)).setCell ⟨gb345, 4, none⟩ (.int .i64 t336)).setCell ⟨gb345, 5, none⟩ (.int .i64 t337)).setCell ⟨gb345, 6, none⟩ (.int .i64 t338)).setCell ⟨gb345, 7, none⟩ (.int .i64 t339)).setCell ⟨gb345, 8, none⟩ (.int .i64 t340)).setCell ⟨gb345, 9, none⟩ (.int .i64 t341)).setCell ⟨gb345, 10, none⟩ (.int .i64 t342)).setCell ⟨gb345, 11, none⟩ (.int .i64 t343)).setCell ⟨gb345, 12, none⟩ (.int .i64 t344)) w.heap.size (fun _ => True) (.slice Ao25 t331.length co25) t331) := ⟨by (with_reducible repeat (first | apply Kd.R_alloc | apply Kd.R_drewN | apply Kd.R_drew)); exact Kd.R_mono (Kd.R_far (p := ⟨gb345, 12, none⟩) (Kd.R_far (p := ⟨gb345, 11, none⟩) (Kd.R_far (p := ⟨gb345, 10, none⟩) (Kd.R_far (p := ⟨gb345, 9, none⟩) (Kd.R_far (p := ⟨gb345, 8, none⟩) (Kd.R_far (p := ⟨gb345, 7, none⟩) (Kd.R_far (p := ⟨gb345, 6, none⟩) (Kd.R_far (p := ⟨gb345, 5, none⟩) (Kd.R_far (p := ⟨gb345, 4, none⟩) (Kd.R_far (p := ⟨gb345, 3, none⟩) (Kd.R_far (p := ⟨gb345, 2, none⟩) (Kd.R_far (p := ⟨gb345, 1, none⟩) (Kd.R_far (p := ⟨gb345, 0, none⟩) (Kd.R_types HO333.out BK345.out (by decide)) (fun _ hk => hk.2) (.slice Ao23 t328.length co23)) (fun _ hk => hk.2) (.slice Ao25 t331.length co25)) (fun _ hk => hk.2) (.int .i64 t334)) (fun _ hk => hk.2) (.int .i64 t335)) (fun _ hk => hk.2) (.int .i64 t336)) (fun _ hk => hk.2) (.int .i64 t337)) (fun _ hk => hk.2) (.int .i64 t338)) (fun _ hk => hk.2) (.int .i64 t339)) (fun _ hk => hk.2) (.int .i64 t340)) (fun _ hk => hk.2) (.int .i64 t341)) (fun _ hk => hk.2) (.int .i64 t342)) (fun _ hk => hk.2) (.int .i64 t343)) (fun _ hk => hk.2) (.int .i64 t344)) (fun _ hk => trivial)⟩
      have n2_ : Aside0 ((((((((((((((w22.setCell ⟨gb345, 0, none⟩ (.slice Ao23 t328.length co23)).setCell ⟨gb345, 1, none⟩ (.slice Ao25 t331.length co25)).setCell ⟨gb345, 2, none⟩ (.int .i64 t334)).setCell ⟨gb345, 3, none⟩ (.int .i64 t335)).setCell ⟨gb345, 4, none⟩ (.int .i64 t336)).setCell ⟨gb345, 5, none⟩ (.int .i64 t337)).setCell ⟨gb345, 6, none⟩ (.int .i64 t338)).setCell ⟨gb345, 7, none⟩ (.int .i64 t339)).setCell ⟨gb345, 8, none⟩ (.int .i64 t340)).setCell ⟨gb345, 9, none⟩ (.int .i64 t341)).setCell ⟨gb345, 10, none⟩ (.int .i64 t342)).setCell ⟨gb345, 11, none⟩ (.int .i64 t343)).setCell ⟨gb345, 12, none⟩ (.int .i64 t344)).heap[gb345]? = some (.cells #[.slice Ao23 t328.length co23, .slice Ao25 t331.length co25, .int .i64 t334, .int .i64 t335, .int .i64 t336, .int .i64 t337, .int .i64 t338, .int .i64 t339, .int .i64 t340, .int .i64 t341, .int .i64 t342, .int .i64 t343, .int .i64 t344] 25 (0, 0))) := ⟨by (with_reducible repeat (first | refine blk_drewN ?_ _ | refine blk_drew ?_ | refine blk_alloc ?_ _)); refine blk_put (cs := #[.slice Ao23 t328.length co23, .slice Ao25 t331.length co25, .int .i64 t334, .int .i64 t335, .int .i64 t336, .int .i64 t337, .int .i64 t338, .int .i64 t339, .int .i64 t340, .int .i64 t341, .int .i64 t342, .int .i64 t343, .int .i64 0]) ?_ 12 _ rfl; (with_reducible repeat (first | refine blk_drewN ?_ _ | refine blk_drew ?_ | refine blk_alloc ?_ _)); refine blk_put (cs := #[.slice Ao23 t328.length co23, .slice Ao25 t331.length co25, .int .i64 t334, .int .i64 t335, .int .i64 t336, .int .i64 t337, .int .i64 t338, .int .i64 t339, .int .i64 t340, .int .i64 t341, .int .i64 t342, .int .i64 0, .int .i64 0]) ?_ 11 _ rfl; (with_reducible repeat (first | refine blk_drewN ?_ _ | refine blk_drew ?_ | refine blk_alloc ?_ _)); refine blk_put (cs := #[.slice Ao23 t328.length co23, .slice Ao25 t331.length co25, .int .i64 t334, .int .i64 t335, .int .i64 t336, .int .i64 t337, .int .i64 t338, .int .i64 t339, .int .i64 t340, .int .i64 t341, .int .i64 0, .int .i64 0, .int .i64 0]) ?_ 10 _ rfl; (with_reducible repeat (first | refine blk_drewN ?_ _ | refine blk_drew ?_ | refine blk_alloc ?_ _)); refine blk_put (cs := #[.slice Ao23 t328.length co23, .slice Ao25 t331.length co25, .int .i64 t334, .int .i64 t335, .int .i64 t336, .int .i64 t337, .int .i64 t338, .int .i64 t339, .int .i64 t340, .int .i64 0, .int .i64 0, .int .i64 0, .int .i64 0]) ?_ 9 _ rfl; (with_reducible repeat (first | refine blk_drewN ?_ _ | refine blk_drew ?_ | refine blk_alloc ?_ _)); refine blk_put (cs := #[.slice Ao23 t328.length co23, .slice Ao25 t331.length co25, .int .i64 t334, .int .i64 t335, .int .i64 t336, .int .i64 t337, .int .i64 t338, .int .i64 t339, .int .i64 0, .int .i64 0, .int .i64 0, .int .i64 0, .int .i64 0]) ?_ 8 _ rfl; (with_reducible repeat (first | refine blk_drewN ?_ _ | refine blk_drew ?_ | refine blk_alloc ?_ _)); refine blk_put (cs := #[.slice Ao23 t328.length co23, .slice Ao25 t331.length co25, .int .i64 t334, .int .i64 t335, .int .i64 t336, .int .i64 t337, .int .i64 t338, .int .i64 0, .int .i64 0, .int .i64 0, .int .i64 0, .int .i64 0, .int .i64 0]) ?_ 7 _ rfl; (with_reducible repeat (first | refine blk_drewN ?_ _ | refine blk_drew ?_ | refine blk_alloc ?_ _)); refine blk_put (cs := #[.slice Ao23 t328.length co23, .slice Ao25 t331.length co25, .int .i64 t334, .int .i64 t335, .int .i64 t336, .int .i64 t337, .int .i64 0, .int .i64 0, .int .i64 0, .int .i64 0, .int .i64 0, .int .i64 0, .int .i64 0]) ?_ 6 _ rfl; (with_reducible repeat (first | refine blk_drewN ?_ _ | refine blk_drew ?_ | refine blk_alloc ?_ _)); refine blk_put (cs := #[.slice Ao23 t328.length co23, .slice Ao25 t331.length co25, .int .i64 t334, .int .i64 t335, .int .i64 t336, .int .i64 0, .int .i64 0, .int .i64 0, .int .i64 0, .int .i64 0, .int .i64 0, .int .i64 0, .int .i64 0]) ?_ 5 _ rfl; (with_reducible repeat (first | refine blk_drewN ?_ _ | refine blk_drew ?_ | refine blk_alloc ?_ _)); refine blk_put (cs := #[.slice Ao23 t328.length co23, .slice Ao25 t331.length co25, .int .i64 t334, .int .i64 t335, .int .i64 0, .int .i64 0, .int .i64 0, .int .i64 0, .int .i64 0, .int .i64 0, .int .i64 0, .int .i64 0, .int .i64 0]) ?_ 4 _ rfl; (with_reducible repeat (first | refine blk_drewN ?_ _ | refine blk_drew ?_ | refine blk_alloc ?_ _)); refine blk_put (cs := #[.slice Ao23 t328.length co23, .slice Ao25 t331.length co25, .int .i64 t334, .int .i64 0, .int .i64 0, .int .i64 0, .int .i64 0, .int .i64 0, .int .i64 0, .int .i64 0, .int .i64 0, .int .i64 0, .int .i64 0]) ?_ 3 _ rfl; (with_reducible repeat (first | refine blk_drewN ?_ _ | refine blk_drew ?_ | refine blk_alloc ?_ _)); refine blk_put (cs := #[.slice Ao23 t328.length co23, .slice Ao25 t331.length co25, .int .i64 0, .int .i64 0, .int .i64 0, .int .i64 0, .int .i64 0, .int .i64 0, .int .i64 0, .int .i64 0, .int .i64 0, .int .i64 0, .int .i64 0]) ?_ 2 _ rfl; (with_reducible repeat (first | refine blk_drewN ?_ _ | refine blk_drew ?_ | refine blk_alloc ?_ _)); refine blk_put (cs := #[.slice Ao23 t328.length co23, .slice none 0 0, .int .i64 0, .int .i64 0, .int .i64 0, .int .i64 0, .int .i64 0, .int .i64 0, .int .i64 0, .int .i64 0, .int .i64 0, .int .i64 0, .int .i64 0]) ?_ 1 _ rfl; (with_reducible repeat (first | refine blk_drewN ?_ _ | refine blk_drew ?_ | refine blk_alloc ?_ _)); refine blk_put (cs := #[.slice none 0 0, .slice none 0 0, .int .i64 0, .int .i64 0, .int .i64 0, .int .i64 0, .int .i64 0, .int .i64 0, .int .i64 0, .int .i64 0, .int .i64 0, .int .i64 0, .int .i64 0]) ?_ 0 _ rfl; (with_reducible repeat (first | refine blk_drewN ?_ _ | refine blk_drew ?_ | refine blk_alloc ?_ _)); exact BK345.out⟩
      have n3_ : Aside0 (Below w.heap.size w (((((((((((((w22.setCell ⟨gb345, 0, none⟩ (.slice Ao23 t328.length co23)).setCell ⟨gb345, 1, none⟩ (.slice Ao25 t331.length co25)).setCell ⟨gb345, 2, none⟩ (.int .i64 t334)).setCell ⟨gb345, 3, none⟩ (.int .i64 t335)).setCell ⟨gb345, 4, none⟩ (.int .i64 t336)).setCell ⟨gb345, 5, none⟩ (.int .i64 t337)).setCell ⟨gb345, 6, none⟩ (.int .i64 t338)).setCell ⟨gb345, 7, none⟩ (.int .i64 t339)).setCell ⟨gb345, 8, none⟩ (.int .i64 t340)).setCell ⟨gb345, 9, none⟩ (.int .i64 t341)).setCell ⟨gb345, 10, none⟩ (.int .i64 t342)).setCell ⟨gb345, 11, none⟩ (.int .i64 t343)).setCell ⟨gb345, 12, none⟩ (.int .i64 t344))) := ⟨by repeat (first | (with_reducible first | exact HB.out | apply below_alloc | apply pw_below_drewN | apply below_drew1 | refine below_set ?_ GE345.out) | exact HB.out)⟩
      (try clear HO330)
      (try clear HO333)
      (try clear BK345)
      (try clear HB)
      generalize (((((((((((((w22.setCell ⟨gb345, 0, none⟩ (.slice Ao23 t328.length co23)).setCell ⟨gb345, 1, none⟩ (.slice Ao25 t331.length co25)).setCell ⟨gb345, 2, none⟩ (.int .i64 t334)).setCell ⟨gb345, 3, none⟩ (.int .i64 t335)).setCell ⟨gb345, 4, none⟩ (.int .i64 t336)).setCell ⟨gb345, 5, none⟩ (.int .i64 t337)).setCell ⟨gb345, 6, none⟩ (.int .i64 t338)).setCell ⟨gb345, 7, none⟩ (.int .i64 t339)).setCell ⟨gb345, 8, none⟩ (.int .i64 t340)).setCell ⟨gb345, 9, none⟩ (.int .i64 t341)).setCell ⟨gb345, 10, none⟩ (.int .i64 t342)).setCell ⟨gb345, 11, none⟩ (.int .i64 t343)).setCell ⟨gb345, 12, none⟩ (.int .i64 t344)) = w26 at n0_ n1_ n2_ n3_ ⊢
      have HO330 := n0_
      have HO333 := n1_
      have BK345 := n2_
      have HB := n3_
      clear n0_ n1_ n2_ n3_
      have n0_ := Aside0.mk (Kd.R_drew HO330.out)
      have n1_ := Aside0.mk (Kd.R_drew HO333.out)
      have n2_ := Aside0.mk (blk_drew BK345.out)
      have n3_ := Aside0.mk (below_drew1 HB.out)
      clear HO330
      clear HO333
      clear BK345
      clear HB
      have HO330 := n0_
      have HO333 := n1_
      have BK345 := n2_
      have HB := n3_
      clear n0_ n1_ n2_ n3_
      refine start_ (n := 14) (S := fun w' => w'.cell? ⟨gb345, 0, none⟩ = some (.slice Ao23 t328.length co23) ∧ w'.cell? ⟨gb345, 1, none⟩ = some (.slice Ao25 t331.length co25) ∧ w'.cell? ⟨gb345, 2, none⟩ = some (.int .i64 t334) ∧ w'.cell? ⟨gb345, 3, none⟩ = some (.int .i64 t335) ∧ w'.cell? ⟨gb345, 4, none⟩ = some (.int .i64 t336) ∧ w'.cell? ⟨gb345, 5, none⟩ = some (.int .i64 t337) ∧ w'.cell? ⟨gb345, 6, none⟩ = some (.int .i64 t338) ∧ w'.cell? ⟨gb345, 7, none⟩ = some (.int .i64 t339) ∧ w'.cell? ⟨gb345, 8, none⟩ = some (.int .i64 t340) ∧ w'.cell? ⟨gb345, 9, none⟩ = some (.int .i64 t341) ∧ w'.cell? ⟨gb345, 10, none⟩ = some (.int .i64 t342) ∧ w'.cell? ⟨gb345, 11, none⟩ = some (.int .i64 t343) ∧ w'.cell? ⟨gb345, 12, none⟩ = some (.int .i64 t344)) (ds := []) #[false, false, false, false, false, false, false, false, false, false, false, false, false, false] (by kernel_rfl) rfl rfl ⟨(blk_cell BK345.out 0).trans rfl, (blk_cell BK345.out 1).trans rfl, (blk_cell BK345.out 2).trans rfl, (blk_cell BK345.out 3).trans rfl, (blk_cell BK345.out 4).trans rfl, (blk_cell BK345.out 5).trans rfl, (blk_cell BK345.out 6).trans rfl, (blk_cell BK345.out 7).trans rfl, (blk_cell BK345.out 8).trans rfl, (blk_cell BK345.out 9).trans rfl, (blk_cell BK345.out 10).trans rfl, (blk_cell BK345.out 11).trans rfl, (blk_cell BK345.out 12).trans rfl⟩ (fun hHeld => ?_); refine with_tabW drumlinelaw6_HopsMade.tab4 drumlinelaw6_HopsMade.bits4 (fun HT_ HW_ => ?_)
      generalize w26.drew = w27 at HO330 HO333 BK345 HB hHeld ⊢
      refine pure_ (i := 0) (N := some 14) (v := ?_) (a' := ?_) #[true, false, false, false, false, false, false, false, false, false, false, false, false, false] rfl rfl (any_of HT_.out (by kernel_rfl)) (fun _ _ _ h => h) (Or.inl ⟨by rfl, ?_⟩) ?_ ?_
      rotate_left
      ·intro w'
       go_simp
       with_reducible rfl
      rotate_left
      ·simp only [Act.put, sAa, sBb, sCc, i64_w, i32_w]
       rfl
      refine pure_ (i := 1) (N := some 15) (v := ?_) (a' := ?_) #[true, true, false, false, false, false, false, false, false, false, false, false, false, false] rfl rfl (any_of HT_.out (by kernel_rfl)) (fun _ _ _ h => h) (Or.inl ⟨by rfl, ?_⟩) ?_ ?_
      rotate_left
      ·intro w'
       go_simp
       with_reducible rfl
      rotate_left
      ·simp only [Act.put, sAa, sBb, sCc, i64_w, i32_w]
       rfl
      refine pure_ (i := 2) (N := some 16) (v := ?_) (a' := ?_) #[true, true, true, false, false, false, false, false, false, false, false, false, false, false] rfl rfl (any_of HT_.out (by kernel_rfl)) (fun _ _ _ h => h) (Or.inl ⟨by rfl, ?_⟩) ?_ ?_
      rotate_left
      ·intro w'
       go_simp
       with_reducible rfl
      rotate_left
      ·simp only [Act.put, sAa, sBb, sCc, i64_w, i32_w]
       rfl
      refine pure_ (i := 6) (N := some 20) (v := ?_) (a' := ?_) #[true, true, true, false, false, false, true, false, false, false, false, false, false, false] rfl rfl (any_of HT_.out (by kernel_rfl)) (fun _ _ _ h => h) (Or.inl ⟨by rfl, ?_⟩) ?_ ?_
      rotate_left
      ·intro w'
       go_simp
       with_reducible rfl
      rotate_left
      ·simp only [Act.put, sAa, sBb, sCc, i64_w, i32_w]
       rfl
      refine pure_ (i := 7) (N := some 21) (v := ?_) (a' := ?_) #[true, true, true, false, false, false, true, true, false, false, false, false, false, false] rfl rfl (any_of HT_.out (by kernel_rfl)) (fun _ _ _ h => h) (Or.inl ⟨by rfl, ?_⟩) ?_ ?_
      rotate_left
      ·intro w'
       go_simp
       with_reducible rfl
      rotate_left
      ·simp only [Act.put, sAa, sBb, sCc, i64_w, i32_w]
       rfl
      refine pure_ (i := 8) (N := some 22) (v := ?_) (a' := ?_) #[true, true, true, false, false, false, true, true, true, false, false, false, false, false] rfl rfl (any_of HT_.out (by kernel_rfl)) (fun _ _ _ h => h) (Or.inl ⟨by rfl, ?_⟩) ?_ ?_
      rotate_left
      ·intro w'
       go_simp
       with_reducible rfl
      rotate_left
      ·simp only [Act.put, sAa, sBb, sCc, i64_w, i32_w]
       rfl
      refine take_ (i := 3) (N := some 17) (v := ?_) (a' := ?_) #[true, true, true, true, false, false, true, true, true, false, false, false, false, false] rfl rfl (take_ofW HT_.out HW_.out (by kernel_rfl)) (fun _ _ _ h => h) (Or.inl ⟨by rfl, ?_⟩) hHeld ?_ ?_
      rotate_left
      ·rintro w' ⟨s0, s1, s2, s3, s4, s5, s6, s7, s8, s9, s10, s11, s12⟩
       go_simp
       with_reducible rfl
      rotate_left
      ·simp only [Act.put, sAa, sBb, sCc, i64_w, i32_w]
       rfl
      refine pure_ (i := 4) (N := some 18) (v := ?_) (a' := ?_) #[true, true, true, true, true, false, true, true, true, false, false, false, false, false] rfl rfl (any_of HT_.out (by kernel_rfl)) (fun _ _ _ h => h) (Or.inl ⟨by rfl, ?_⟩) ?_ ?_
      rotate_left
      ·intro w'
       go_simp
       with_reducible rfl
      rotate_left
      ·simp only [Act.put, sAa, sBb, sCc, i64_w, i32_w]
       rfl
      refine pure_ (i := 5) (N := some 19) (v := ?_) (a' := ?_) #[true, true, true, true, true, true, true, true, true, false, false, false, false, false] rfl rfl (any_of HT_.out (by kernel_rfl)) (fun _ _ _ h => h) (Or.inl ⟨by rfl, ?_⟩) ?_ ?_
      rotate_left
      ·intro w'
       go_simp
       with_reducible rfl
      rotate_left
      ·simp only [Act.put, sAa, sBb, sCc, i64_w, i32_w]
       rfl
      refine pure_ (i := 12) (N := some 8) (v := ?_) (a' := ?_) #[true, true, true, true, true, true, true, true, true, false, false, false, true, false] rfl rfl (any_of HT_.out (by kernel_rfl)) (fun _ _ _ h => h) (Or.inl ⟨by rfl, ?_⟩) ?_ ?_
      rotate_left
      ·intro w'
       go_simp
       with_reducible rfl
      rotate_left
      ·simp only [Act.put, sAa, sBb, sCc, i64_w, i32_w]
       rfl
      refine take_ (i := 9) (N := some 23) (v := ?_) (a' := ?_) #[true, true, true, true, true, true, true, true, true, true, false, false, true, false] rfl rfl (take_ofW HT_.out HW_.out (by kernel_rfl)) (fun _ _ _ h => h) (Or.inl ⟨by rfl, ?_⟩) hHeld ?_ ?_
      rotate_left
      ·rintro w' ⟨s0, s1, s2, s3, s4, s5, s6, s7, s8, s9, s10, s11, s12⟩
       go_simp
       with_reducible rfl
      rotate_left
      ·simp only [Act.put, sAa, sBb, sCc, i64_w, i32_w]
       rfl
      refine pure_ (i := 10) (N := some 24) (v := ?_) (a' := ?_) #[true, true, true, true, true, true, true, true, true, true, true, false, true, false] rfl rfl (any_of HT_.out (by kernel_rfl)) (fun _ _ _ h => h) (Or.inl ⟨by rfl, ?_⟩) ?_ ?_
      rotate_left
      ·intro w'
       go_simp
       with_reducible rfl
      rotate_left
      ·simp only [Act.put, sAa, sBb, sCc, i64_w, i32_w]
       rfl
      refine pure_ (i := 11) (N := some 25) (v := ?_) (a' := ?_) #[true, true, true, true, true, true, true, true, true, true, true, true, true, false] rfl rfl (any_of HT_.out (by kernel_rfl)) (fun _ _ _ h => h) (Or.inl ⟨by rfl, ?_⟩) ?_ ?_
      rotate_left
      ·intro w'
       go_simp
       with_reducible rfl
      rotate_left
      ·simp only [Act.put, sAa, sBb, sCc, i64_w, i32_w]
       rfl
      refine pure_ (i := 13) (N := some 9) (v := ?_) (a' := ?_) #[true, true, true, true, true, true, true, true, true, true, true, true, true, true] rfl rfl (any_of HT_.out (by kernel_rfl)) (fun _ _ _ h => h) (Or.inl ⟨by rfl, ?_⟩) ?_ ?_
      rotate_left
      ·intro w'
       go_simp
       with_reducible rfl
      rotate_left
      ·simp only [Act.put, sAa, sBb, sCc, i64_w, i32_w]
       rfl
      refine done_ (done_of HT_.out (by kernel_rfl)) ?_
      try go_wp2
      have n0_ := Aside0.mk (Kd.R_drew HO330.out)
      have n1_ := Aside0.mk (Kd.R_drew HO333.out)
      have n2_ := Aside0.mk (blk_drew BK345.out)
      have n3_ := Aside0.mk (below_drew1 HB.out)
      clear HO330
      clear HO333
      clear BK345
      clear HB
      have HO330 := n0_
      have HO333 := n1_
      have BK345 := n2_
      have HB := n3_
      clear n0_ n1_ n2_ n3_
      refine start_ (n := 39) (S := fun w' => w'.cell? ⟨gb345, 0, none⟩ = some (.slice Ao23 t328.length co23) ∧ w'.cell? ⟨gb345, 1, none⟩ = some (.slice Ao25 t331.length co25) ∧ w'.cell? ⟨gb345, 2, none⟩ = some (.int .i64 t334) ∧ w'.cell? ⟨gb345, 3, none⟩ = some (.int .i64 t335) ∧ w'.cell? ⟨gb345, 4, none⟩ = some (.int .i64 t336) ∧ w'.cell? ⟨gb345, 5, none⟩ = some (.int .i64 t337) ∧ w'.cell? ⟨gb345, 6, none⟩ = some (.int .i64 t338) ∧ w'.cell? ⟨gb345, 7, none⟩ = some (.int .i64 t339) ∧ w'.cell? ⟨gb345, 8, none⟩ = some (.int .i64 t340) ∧ w'.cell? ⟨gb345, 9, none⟩ = some (.int .i64 t341) ∧ w'.cell? ⟨gb345, 10, none⟩ = some (.int .i64 t342) ∧ w'.cell? ⟨gb345, 11, none⟩ = some (.int .i64 t343) ∧ w'.cell? ⟨gb345, 12, none⟩ = some (.int .i64 t344)) (ds := []) #[false, false, false, false, false, false, false, false, false, false, false, false, false, false, false, false, false, false, false, false, false, false, false, false, false, false, false, false, false, false, false, false, false, false, false, false, false, false, false] (by kernel_rfl) rfl rfl ⟨(blk_cell BK345.out 0).trans rfl, (blk_cell BK345.out 1).trans rfl, (blk_cell BK345.out 2).trans rfl, (blk_cell BK345.out 3).trans rfl, (blk_cell BK345.out 4).trans rfl, (blk_cell BK345.out 5).trans rfl, (blk_cell BK345.out 6).trans rfl, (blk_cell BK345.out 7).trans rfl, (blk_cell BK345.out 8).trans rfl, (blk_cell BK345.out 9).trans rfl, (blk_cell BK345.out 10).trans rfl, (blk_cell BK345.out 11).trans rfl, (blk_cell BK345.out 12).trans rfl⟩ (fun hHeld => ?_); refine with_tabW drumlinelaw6_HopsMade.tab5 drumlinelaw6_HopsMade.bits5 (fun HT_ HW_ => ?_)
      generalize w27.drew = w28 at HO330 HO333 BK345 HB hHeld ⊢
      refine pure_ (i := 1) (N := some 27) (v := ?_) (a' := ?_) #[false, true, false, false, false, false, false, false, false, false, false, false, false, false, false, false, false, false, false, false, false, false, false, false, false, false, false, false, false, false, false, false, false, false, false, false, false, false, false] rfl rfl (any_of HT_.out (by kernel_rfl)) (fun _ _ _ h => h) (Or.inl ⟨by rfl, ?_⟩) ?_ ?_
      rotate_left
      ·intro w'
       go_simp
       with_reducible rfl
      rotate_left
      ·simp only [Act.put, sAa, sBb, sCc, i64_w, i32_w]
       rfl
      refine pure_ (i := 2) (N := some 28) (v := ?_) (a' := ?_) #[false, true, true, false, false, false, false, false, false, false, false, false, false, false, false, false, false, false, false, false, false, false, false, false, false, false, false, false, false, false, false, false, false, false, false, false, false, false, false] rfl rfl (any_of HT_.out (by kernel_rfl)) (fun _ _ _ h => h) (Or.inl ⟨by rfl, ?_⟩) ?_ ?_
      rotate_left
      ·intro w'
       go_simp
       with_reducible rfl
      rotate_left
      ·simp only [Act.put, sAa, sBb, sCc, i64_w, i32_w]
       rfl
      refine pure_ (i := 5) (N := some 31) (v := ?_) (a' := ?_) #[false, true, true, false, false, true, false, false, false, false, false, false, false, false, false, false, false, false, false, false, false, false, false, false, false, false, false, false, false, false, false, false, false, false, false, false, false, false, false] rfl rfl (any_of HT_.out (by kernel_rfl)) (fun _ _ _ h => h) (Or.inl ⟨by rfl, ?_⟩) ?_ ?_
      rotate_left
      ·intro w'
       go_simp
       with_reducible rfl
      rotate_left
      ·simp only [Act.put, sAa, sBb, sCc, i64_w, i32_w]
       rfl
      refine pure_ (i := 6) (N := some 32) (v := ?_) (a' := ?_) #[false, true, true, false, false, true, true, false, false, false, false, false, false, false, false, false, false, false, false, false, false, false, false, false, false, false, false, false, false, false, false, false, false, false, false, false, false, false, false] rfl rfl (any_of HT_.out (by kernel_rfl)) (fun _ _ _ h => h) (Or.inl ⟨by rfl, ?_⟩) ?_ ?_
      rotate_left
      ·intro w'
       go_simp
       with_reducible rfl
      rotate_left
      ·simp only [Act.put, sAa, sBb, sCc, i64_w, i32_w]
       rfl
      refine take_ (i := 0) (N := some 26) (v := ?_) (a' := ?_) #[true, true, true, false, false, true, true, false, false, false, false, false, false, false, false, false, false, false, false, false, false, false, false, false, false, false, false, false, false, false, false, false, false, false, false, false, false, false, false] rfl rfl (take_ofW HT_.out HW_.out (by kernel_rfl)) (fun _ _ _ h => h) (Or.inl ⟨by rfl, ?_⟩) hHeld ?_ ?_
      rotate_left
      ·rintro w' ⟨s0, s1, s2, s3, s4, s5, s6, s7, s8, s9, s10, s11, s12⟩
       go_simp
       with_reducible rfl
      rotate_left
      ·simp only [Act.put, sAa, sBb, sCc, i64_w, i32_w]
       rfl
      refine take_ (i := 4) (N := some 30) (v := ?_) (a' := ?_) #[true, true, true, false, true, true, true, false, false, false, false, false, false, false, false, false, false, false, false, false, false, false, false, false, false, false, false, false, false, false, false, false, false, false, false, false, false, false, false] rfl rfl (take_ofW HT_.out HW_.out (by kernel_rfl)) (fun _ _ _ h => h) (Or.inl ⟨by rfl, ?_⟩) hHeld ?_ ?_
      rotate_left
      ·rintro w' ⟨s0, s1, s2, s3, s4, s5, s6, s7, s8, s9, s10, s11, s12⟩
       go_simp
       with_reducible rfl
      rotate_left
      ·simp only [Act.put, sAa, sBb, sCc, i64_w, i32_w]
       rfl
      refine one_ (i := 3) (N := some 29) #[true, true, true, true, true, true, true, false, false, false, false, false, false, false, false, false, false, false, false, false, false, false, false, false, false, false, false, false, false, false, false, false, false, false, false, false, false, false, false] rfl rfl (one_of HT_.out (by kernel_rfl)) (by decide) (fun K hK => ?_)
      refine goes_ Tryd.func11 (by kernel_rfl) rfl #[.agg #[.slice Ao23 t328.length co23, .slice Ao25 t331.length co25, .int .i64 t334, .int .i64 t335, .int .i64 t336, .int .i64 t337, .int .i64 t338, .int .i64 t339, .int .i64 t340, .int .i64 t341, .int .i64 t342, .int .i64 t343, .int .i64 t344], .int .i64 (Int.tmod (wrap64 (a1)) (t328.length : Int)), .int .i64 (Int.tmod (wrap64 (a2)) (t328.length : Int))] (by rfl) rfl rfl (by (try simp only [List.map_toArray, List.map_cons, List.map_nil]); first | done | rfl | (simp only [List.length_drop, List.length_take]; rfl)) ?_
      with_reducible refine (hops_Dist.calls k _ _ t328 _ _ t331 t334 t335 t336 t337 t338 t339 t340 t341 t342 t343 t344 (Int.tmod (wrap64 (a1)) (t328.length : Int)) (Int.tmod (wrap64 (a2)) (t328.length : Int)) t346 _ ?side1 ?side2 ?side3 ?side4 A8.out).mono ?_
      (case side1 => repeat (first | exact (Kd.R_reads' HO330.out).2.2 | (with_reducible refine Kd.C_alloc ?_ _) | (with_reducible refine Kd.C_drewN ?_ _) | (with_reducible refine Kd.C_drew ?_)))
      (case side2 => exact (Kd.R_reads' HO330.out).2.1)
      (case side3 => repeat (first | exact (Kd.R_reads' HO333.out).2.2 | (with_reducible refine Kd.C_alloc ?_ _) | (with_reducible refine Kd.C_drewN ?_ _) | (with_reducible refine Kd.C_drew ?_)))
      (case side4 => exact (Kd.R_reads' HO333.out).2.1)
      rintro e w29 ⟨rfl, hb⟩
      refine ⟨_, rfl, ?_⟩
      have n0_ := Aside0.mk (Kd.R_below (by (with_reducible repeat (first | apply Kd.R_alloc | apply Kd.R_drewN | apply Kd.R_drew)); exact HO330.out) hb)
      have n1_ := Aside0.mk (Kd.R_below (by (with_reducible repeat (first | apply Kd.R_alloc | apply Kd.R_drewN | apply Kd.R_drew)); exact HO333.out) hb)
      have n2_ := Aside0.mk (blk_below (g := gb345) (o := .cells #[.slice Ao23 t328.length co23, .slice Ao25 t331.length co25, .int .i64 t334, .int .i64 t335, .int .i64 t336, .int .i64 t337, .int .i64 t338, .int .i64 t339, .int .i64 t340, .int .i64 t341, .int .i64 t342, .int .i64 t343, .int .i64 t344] 25 (0, 0)) (by (with_reducible repeat (first | refine blk_drewN ?_ _ | refine blk_drew ?_ | refine blk_alloc ?_ _)); exact BK345.out) hb)
      have n3_ := Aside0.mk (below_step (by repeat (first | (with_reducible first | exact HB.out | apply below_alloc | apply pw_below_drewN | apply below_drew1 | refine below_set ?_ GE345.out) | exact HB.out)) hb)
      clear HO330
      clear HO333
      clear BK345
      clear HB
      have HO330 := n0_
      have HO333 := n1_
      have BK345 := n2_
      have HB := n3_
      clear n0_ n1_ n2_ n3_
      (try clear hb)
      (try clear hb2)
      (try clear hk)
      (try clear hi)
      refine hK.out _ _ ⟨(blk_cell BK345.out 0).trans rfl, (blk_cell BK345.out 1).trans rfl, (blk_cell BK345.out 2).trans rfl, (blk_cell BK345.out 3).trans rfl, (blk_cell BK345.out 4).trans rfl, (blk_cell BK345.out 5).trans rfl, (blk_cell BK345.out 6).trans rfl, (blk_cell BK345.out 7).trans rfl, (blk_cell BK345.out 8).trans rfl, (blk_cell BK345.out 9).trans rfl, (blk_cell BK345.out 10).trans rfl, (blk_cell BK345.out 11).trans rfl, (blk_cell BK345.out 12).trans rfl⟩ (fun hHeld => ?_)
      clear hK K
      refine norm_ (a' := ?_) ?_ ?_
      rotate_left
      ·show Act.put _ (some 29) _ = _
       simp only [Act.put, sAa, sBb, sCc, i64_w, i32_w]
       rfl
      refine one_ (i := 7) (N := some 33) #[true, true, true, true, true, true, true, true, false, false, false, false, false, false, false, false, false, false, false, false, false, false, false, false, false, false, false, false, false, false, false, false, false, false, false, false, false, false, false] rfl rfl (one_of HT_.out (by kernel_rfl)) (by decide) (fun K hK => ?_)
      refine goes_ Tryd.func12 (by kernel_rfl) rfl #[.agg #[.slice Ao23 t328.length co23, .slice Ao25 t331.length co25, .int .i64 t334, .int .i64 t335, .int .i64 t336, .int .i64 t337, .int .i64 t338, .int .i64 t339, .int .i64 t340, .int .i64 t341, .int .i64 t342, .int .i64 t343, .int .i64 t344], .int .i64 (Int.tmod (wrap64 (a1)) (t328.length : Int)), .int .i64 (Int.tmod (wrap64 (a2)) (t328.length : Int))] (by rfl) rfl rfl (by (try simp only [List.map_toArray, List.map_cons, List.map_nil]); first | done | rfl | (simp only [List.length_drop, List.length_take]; rfl)) ?_
      with_reducible refine (drumlineref5_Dist.calls k _ _ t328 _ _ t331 t334 t335 t336 t337 t338 t339 t340 t341 t342 t343 t344 (Int.tmod (wrap64 (a1)) (t328.length : Int)) (Int.tmod (wrap64 (a2)) (t328.length : Int)) t347 _ ?side1 ?side2 ?side3 ?side4 A9.out).mono ?_
      (case side1 => repeat (first | exact (Kd.R_reads' HO330.out).2.2 | (with_reducible refine Kd.C_alloc ?_ _) | (with_reducible refine Kd.C_drewN ?_ _) | (with_reducible refine Kd.C_drew ?_)))
      (case side2 => exact (Kd.R_reads' HO330.out).2.1)
      (case side3 => repeat (first | exact (Kd.R_reads' HO333.out).2.2 | (with_reducible refine Kd.C_alloc ?_ _) | (with_reducible refine Kd.C_drewN ?_ _) | (with_reducible refine Kd.C_drew ?_)))
      (case side4 => exact (Kd.R_reads' HO333.out).2.1)
      rintro e w30 ⟨rfl, hb⟩
      refine ⟨_, rfl, ?_⟩
      have n0_ := Aside0.mk (Kd.R_below (by (with_reducible repeat (first | apply Kd.R_alloc | apply Kd.R_drewN | apply Kd.R_drew)); exact HO330.out) hb)
      have n1_ := Aside0.mk (Kd.R_below (by (with_reducible repeat (first | apply Kd.R_alloc | apply Kd.R_drewN | apply Kd.R_drew)); exact HO333.out) hb)
      have n2_ := Aside0.mk (blk_below (g := gb345) (o := .cells #[.slice Ao23 t328.length co23, .slice Ao25 t331.length co25, .int .i64 t334, .int .i64 t335, .int .i64 t336, .int .i64 t337, .int .i64 t338, .int .i64 t339, .int .i64 t340, .int .i64 t341, .int .i64 t342, .int .i64 t343, .int .i64 t344] 25 (0, 0)) (by (with_reducible repeat (first | refine blk_drewN ?_ _ | refine blk_drew ?_ | refine blk_alloc ?_ _)); exact BK345.out) hb)
      have n3_ := Aside0.mk (below_step (by repeat (first | (with_reducible first | exact HB.out | apply below_alloc | apply pw_below_drewN | apply below_drew1 | refine below_set ?_ GE345.out) | exact HB.out)) hb)
      clear HO330
      clear HO333
      clear BK345
      clear HB
      have HO330 := n0_
      have HO333 := n1_
      have BK345 := n2_
      have HB := n3_
      clear n0_ n1_ n2_ n3_
      (try clear hb)
      (try clear hb2)
      (try clear hk)
      (try clear hi)
      refine hK.out _ _ ⟨(blk_cell BK345.out 0).trans rfl, (blk_cell BK345.out 1).trans rfl, (blk_cell BK345.out 2).trans rfl, (blk_cell BK345.out 3).trans rfl, (blk_cell BK345.out 4).trans rfl, (blk_cell BK345.out 5).trans rfl, (blk_cell BK345.out 6).trans rfl, (blk_cell BK345.out 7).trans rfl, (blk_cell BK345.out 8).trans rfl, (blk_cell BK345.out 9).trans rfl, (blk_cell BK345.out 10).trans rfl, (blk_cell BK345.out 11).trans rfl, (blk_cell BK345.out 12).trans rfl⟩ (fun hHeld => ?_)
      clear hK K
      refine norm_ (a' := ?_) ?_ ?_
      rotate_left
      ·show Act.put _ (some 33) _ = _
       simp only [Act.put, sAa, sBb, sCc, i64_w, i32_w]
       rfl
      refine pure_ (i := 8) (N := some 34) (v := ?_) (a' := ?_) #[true, true, true, true, true, true, true, true, true, false, false, false, false, false, false, false, false, false, false, false, false, false, false, false, false, false, false, false, false, false, false, false, false, false, false, false, false, false, false] rfl rfl (any_of HT_.out (by kernel_rfl)) (fun _ _ _ h => h) (Or.inl ⟨by rfl, ?_⟩) ?_ ?_
      rotate_left
      ·intro w'
       go_simp
       with_reducible rfl
      rotate_left
      ·simp only [Act.put, sAa, sBb, sCc, i64_w, i32_w]
       rfl
      refine pure_ (i := 9) (N := some 35) (v := ?_) (a' := ?_) #[true, true, true, true, true, true, true, true, true, true, false, false, false, false, false, false, false, false, false, false, false, false, false, false, false, false, false, false, false, false, false, false, false, false, false, false, false, false, false] rfl rfl (any_of HT_.out (by kernel_rfl)) (fun _ _ _ h => h) (Or.inl ⟨by rfl, ?_⟩) ?_ ?_
      rotate_left
      ·intro w'
       go_simp
       with_reducible rfl
      rotate_left
      ·simp only [Act.put, sAa, sBb, sCc, i64_w, i32_w]
       rfl
      refine pure_ (i := 11) (N := some 37) (v := ?_) (a' := ?_) #[true, true, true, true, true, true, true, true, true, true, false, true, false, false, false, false, false, false, false, false, false, false, false, false, false, false, false, false, false, false, false, false, false, false, false, false, false, false, false] rfl rfl (any_of HT_.out (by kernel_rfl)) (fun _ _ _ h => h) (Or.inl ⟨by rfl, ?_⟩) ?_ ?_
      rotate_left
      ·intro w'
       go_simp
       with_reducible rfl
      rotate_left
      ·simp only [Act.put, sAa, sBb, sCc, i64_w, i32_w]
       rfl
      refine pure_ (i := 12) (N := some 38) (v := ?_) (a' := ?_) #[true, true, true, true, true, true, true, true, true, true, false, true, true, false, false, false, false, false, false, false, false, false, false, false, false, false, false, false, false, false, false, false, false, false, false, false, false, false, false] rfl rfl (any_of HT_.out (by kernel_rfl)) (fun _ _ _ h => h) (Or.inl ⟨by rfl, ?_⟩) ?_ ?_
      rotate_left
      ·intro w'
       go_simp
       with_reducible rfl
      rotate_left
      ·simp only [Act.put, sAa, sBb, sCc, i64_w, i32_w]
       rfl
      refine pure_ (i := 15) (N := some 41) (v := ?_) (a' := ?_) #[true, true, true, true, true, true, true, true, true, true, false, true, true, false, false, true, false, false, false, false, false, false, false, false, false, false, false, false, false, false, false, false, false, false, false, false, false, false, false] rfl rfl (any_of HT_.out (by kernel_rfl)) (fun _ _ _ h => h) (Or.inl ⟨by rfl, ?_⟩) ?_ ?_
      rotate_left
      ·intro w'
       go_simp
       with_reducible rfl
      rotate_left
      ·simp only [Act.put, sAa, sBb, sCc, i64_w, i32_w]
       rfl
      refine pure_ (i := 16) (N := some 42) (v := ?_) (a' := ?_) #[true, true, true, true, true, true, true, true, true, true, false, true, true, false, false, true, true, false, false, false, false, false, false, false, false, false, false, false, false, false, false, false, false, false, false, false, false, false, false] rfl rfl (any_of HT_.out (by kernel_rfl)) (fun _ _ _ h => h) (Or.inl ⟨by rfl, ?_⟩) ?_ ?_
      rotate_left
      ·intro w'
       go_simp
       with_reducible rfl
      rotate_left
      ·simp only [Act.put, sAa, sBb, sCc, i64_w, i32_w]
       rfl
      refine take_ (i := 10) (N := some 36) (v := ?_) (a' := ?_) #[true, true, true, true, true, true, true, true, true, true, true, true, true, false, false, true, true, false, false, false, false, false, false, false, false, false, false, false, false, false, false, false, false, false, false, false, false, false, false] rfl rfl (take_ofW HT_.out HW_.out (by kernel_rfl)) (fun _ _ _ h => h) (Or.inl ⟨by rfl, ?_⟩) hHeld ?_ ?_
      rotate_left
      ·rintro w' ⟨s0, s1, s2, s3, s4, s5, s6, s7, s8, s9, s10, s11, s12⟩
       go_simp
       with_reducible rfl
      rotate_left
      ·simp only [Act.put, sAa, sBb, sCc, i64_w, i32_w]
       rfl
      refine take_ (i := 14) (N := some 40) (v := ?_) (a' := ?_) #[true, true, true, true, true, true, true, true, true, true, true, true, true, false, true, true, true, false, false, false, false, false, false, false, false, false, false, false, false, false, false, false, false, false, false, false, false, false, false] rfl rfl (take_ofW HT_.out HW_.out (by kernel_rfl)) (fun _ _ _ h => h) (Or.inl ⟨by rfl, ?_⟩) hHeld ?_ ?_
      rotate_left
      ·rintro w' ⟨s0, s1, s2, s3, s4, s5, s6, s7, s8, s9, s10, s11, s12⟩
       go_simp
       with_reducible rfl
      rotate_left
      ·simp only [Act.put, sAa, sBb, sCc, i64_w, i32_w]
       rfl
      refine one_ (i := 13) (N := some 39) #[true, true, true, true, true, true, true, true, true, true, true, true, true, true, true, true, true, false, false, false, false, false, false, false, false, false, false, false, false, false, false, false, false, false, false, false, false, false, false] rfl rfl (one_of HT_.out (by kernel_rfl)) (by decide) (fun K hK => ?_)
      refine goes_ Tryd.func13 (by kernel_rfl) rfl #[.agg #[.slice Ao23 t328.length co23, .slice Ao25 t331.length co25, .int .i64 t334, .int .i64 t335, .int .i64 t336, .int .i64 t337, .int .i64 t338, .int .i64 t339, .int .i64 t340, .int .i64 t341, .int .i64 t342, .int .i64 t343, .int .i64 t344], .int .i64 (Int.tmod (wrap64 (a1)) (t328.length : Int)), .int .i64 (Int.tmod (wrap64 (a2)) (t328.length : Int))] (by rfl) rfl rfl (by (try simp only [List.map_toArray, List.map_cons, List.map_nil]); first | done | rfl | (simp only [List.length_drop, List.length_take]; rfl)) ?_
      with_reducible refine (hops_Next.calls _ _ t328 _ _ t331 t334 t335 t336 t337 t338 t339 t340 t341 t342 t343 t344 (Int.tmod (wrap64 (a1)) (t328.length : Int)) (Int.tmod (wrap64 (a2)) (t328.length : Int)) t348 _ ?side1 ?side2 ?side3 ?side4 A11.out).mono ?_
      (case side1 => repeat (first | exact (Kd.R_reads' HO330.out).2.2 | (with_reducible refine Kd.C_alloc ?_ _) | (with_reducible refine Kd.C_drewN ?_ _) | (with_reducible refine Kd.C_drew ?_)))
      (case side2 => exact (Kd.R_reads' HO330.out).2.1)
      (case side3 => repeat (first | exact (Kd.R_reads' HO333.out).2.2 | (with_reducible refine Kd.C_alloc ?_ _) | (with_reducible refine Kd.C_drewN ?_ _) | (with_reducible refine Kd.C_drew ?_)))
      (case side4 => exact (Kd.R_reads' HO333.out).2.1)
      rintro e w31 ⟨rfl, hb⟩
      refine ⟨_, rfl, ?_⟩
      have n0_ := Aside0.mk (Kd.R_below (by (with_reducible repeat (first | apply Kd.R_alloc | apply Kd.R_drewN | apply Kd.R_drew)); exact HO330.out) hb)
      have n1_ := Aside0.mk (Kd.R_below (by (with_reducible repeat (first | apply Kd.R_alloc | apply Kd.R_drewN | apply Kd.R_drew)); exact HO333.out) hb)
      have n2_ := Aside0.mk (blk_below (g := gb345) (o := .cells #[.slice Ao23 t328.length co23, .slice Ao25 t331.length co25, .int .i64 t334, .int .i64 t335, .int .i64 t336, .int .i64 t337, .int .i64 t338, .int .i64 t339, .int .i64 t340, .int .i64 t341, .int .i64 t342, .int .i64 t343, .int .i64 t344] 25 (0, 0)) (by (with_reducible repeat (first | refine blk_drewN ?_ _ | refine blk_drew ?_ | refine blk_alloc ?_ _)); exact BK345.out) hb)
      have n3_ := Aside0.mk (below_step (by repeat (first | (with_reducible first | exact HB.out | apply below_alloc | apply pw_below_drewN | apply below_drew1 | refine below_set ?_ GE345.out) | exact HB.out)) hb)
      clear HO330
      clear HO333
      clear BK345
      clear HB
      have HO330 := n0_
      have HO333 := n1_
      have BK345 := n2_
      have HB := n3_
      clear n0_ n1_ n2_ n3_
      (try clear hb)
      (try clear hb2)
      (try clear hk)
      (try clear hi)
      refine hK.out _ _ ⟨(blk_cell BK345.out 0).trans rfl, (blk_cell BK345.out 1).trans rfl, (blk_cell BK345.out 2).trans rfl, (blk_cell BK345.out 3).trans rfl, (blk_cell BK345.out 4).trans rfl, (blk_cell BK345.out 5).trans rfl, (blk_cell BK345.out 6).trans rfl, (blk_cell BK345.out 7).trans rfl, (blk_cell BK345.out 8).trans rfl, (blk_cell BK345.out 9).trans rfl, (blk_cell BK345.out 10).trans rfl, (blk_cell BK345.out 11).trans rfl, (blk_cell BK345.out 12).trans rfl⟩ (fun hHeld => ?_)
      clear hK K
      refine norm_ (a' := ?_) ?_ ?_
      rotate_left
      ·show Act.put _ (some 39) _ = _
       simp only [Act.put, sAa, sBb, sCc, i64_w, i32_w]
       rfl
      refine one_ (i := 17) (N := some 43) #[true, true, true, true, true, true, true, true, true, true, true, true, true, true, true, true, true, true, false, false, false, false, false, false, false, false, false, false, false, false, false, false, false, false, false, false, false, false, false] rfl rfl (one_of HT_.out (by kernel_rfl)) (by decide) (fun K hK => ?_)
      refine goes_ Tryd.func14 (by kernel_rfl) rfl #[.agg #[.slice Ao23 t328.length co23, .slice Ao25 t331.length co25, .int .i64 t334, .int .i64 t335, .int .i64 t336, .int .i64 t337, .int .i64 t338, .int .i64 t339, .int .i64 t340, .int .i64 t341, .int .i64 t342, .int .i64 t343, .int .i64 t344], .int .i64 (Int.tmod (wrap64 (a1)) (t328.length : Int)), .int .i64 (Int.tmod (wrap64 (a2)) (t328.length : Int))] (by rfl) rfl rfl (by (try simp only [List.map_toArray, List.map_cons, List.map_nil]); first | done | rfl | (simp only [List.length_drop, List.length_take]; rfl)) ?_
      with_reducible refine (drumlineref5_Next.calls k _ _ t328 _ _ t331 t334 t335 t336 t337 t338 t339 t340 t341 t342 t343 t344 (Int.tmod (wrap64 (a1)) (t328.length : Int)) (Int.tmod (wrap64 (a2)) (t328.length : Int)) t349 _ ?side1 ?side2 ?side3 ?side4 A12.out).mono ?_
      (case side1 => repeat (first | exact (Kd.R_reads' HO330.out).2.2 | (with_reducible refine Kd.C_alloc ?_ _) | (with_reducible refine Kd.C_drewN ?_ _) | (with_reducible refine Kd.C_drew ?_)))
      (case side2 => exact (Kd.R_reads' HO330.out).2.1)
      (case side3 => repeat (first | exact (Kd.R_reads' HO333.out).2.2 | (with_reducible refine Kd.C_alloc ?_ _) | (with_reducible refine Kd.C_drewN ?_ _) | (with_reducible refine Kd.C_drew ?_)))
      (case side4 => exact (Kd.R_reads' HO333.out).2.1)
      rintro e w32 ⟨rfl, hb⟩
      refine ⟨_, rfl, ?_⟩
      have n0_ := Aside0.mk (Kd.R_below (by (with_reducible repeat (first | apply Kd.R_alloc | apply Kd.R_drewN | apply Kd.R_drew)); exact HO330.out) hb)
      have n1_ := Aside0.mk (Kd.R_below (by (with_reducible repeat (first | apply Kd.R_alloc | apply Kd.R_drewN | apply Kd.R_drew)); exact HO333.out) hb)
      have n2_ := Aside0.mk (blk_below (g := gb345) (o := .cells #[.slice Ao23 t328.length co23, .slice Ao25 t331.length co25, .int .i64 t334, .int .i64 t335, .int .i64 t336, .int .i64 t337, .int .i64 t338, .int .i64 t339, .int .i64 t340, .int .i64 t341, .int .i64 t342, .int .i64 t343, .int .i64 t344] 25 (0, 0)) (by (with_reducible repeat (first | refine blk_drewN ?_ _ | refine blk_drew ?_ | refine blk_alloc ?_ _)); exact BK345.out) hb)
      have n3_ := Aside0.mk (below_step (by repeat (first | (with_reducible first | exact HB.out | apply below_alloc | apply pw_below_drewN | apply below_drew1 | refine below_set ?_ GE345.out) | exact HB.out)) hb)
      clear HO330
      clear HO333
      clear BK345
      clear HB
      have HO330 := n0_
      have HO333 := n1_
      have BK345 := n2_
      have HB := n3_
      clear n0_ n1_ n2_ n3_
      (try clear hb)
      (try clear hb2)
      (try clear hk)
      (try clear hi)
      refine hK.out _ _ ⟨(blk_cell BK345.out 0).trans rfl, (blk_cell BK345.out 1).trans rfl, (blk_cell BK345.out 2).trans rfl, (blk_cell BK345.out 3).trans rfl, (blk_cell BK345.out 4).trans rfl, (blk_cell BK345.out 5).trans rfl, (blk_cell BK345.out 6).trans rfl, (blk_cell BK345.out 7).trans rfl, (blk_cell BK345.out 8).trans rfl, (blk_cell BK345.out 9).trans rfl, (blk_cell BK345.out 10).trans rfl, (blk_cell BK345.out 11).trans rfl, (blk_cell BK345.out 12).trans rfl⟩ (fun hHeld => ?_)
      clear hK K
      refine norm_ (a' := ?_) ?_ ?_
      rotate_left
      ·show Act.put _ (some 43) _ = _
       simp only [Act.put, sAa, sBb, sCc, i64_w, i32_w]
       rfl
      refine pure_ (i := 18) (N := some 44) (v := ?_) (a' := ?_) #[true, true, true, true, true, true, true, true, true, true, true, true, true, true, true, true, true, true, true, false, false, false, false, false, false, false, false, false, false, false, false, false, false, false, false, false, false, false, false] rfl rfl (any_of HT_.out (by kernel_rfl)) (fun _ _ _ h => h) (Or.inl ⟨by rfl, ?_⟩) ?_ ?_
      rotate_left
      ·intro w'
       go_simp
       with_reducible rfl
      rotate_left
      ·simp only [Act.put, sAa, sBb, sCc, i64_w, i32_w]
       rfl
      refine pure_ (i := 19) (N := some 45) (v := ?_) (a' := ?_) #[true, true, true, true, true, true, true, true, true, true, true, true, true, true, true, true, true, true, true, true, false, false, false, false, false, false, false, false, false, false, false, false, false, false, false, false, false, false, false] rfl rfl (any_of HT_.out (by kernel_rfl)) (fun _ _ _ h => h) (Or.inl ⟨by rfl, ?_⟩) ?_ ?_
      rotate_left
      ·intro w'
       go_simp
       with_reducible rfl
      rotate_left
      ·simp only [Act.put, sAa, sBb, sCc, i64_w, i32_w]
       rfl
      refine pure_ (i := 20) (N := some 46) (v := ?_) (a' := ?_) #[true, true, true, true, true, true, true, true, true, true, true, true, true, true, true, true, true, true, true, true, true, false, false, false, false, false, false, false, false, false, false, false, false, false, false, false, false, false, false] rfl rfl (any_of HT_.out (by kernel_rfl)) (fun _ _ _ h => h) (Or.inl ⟨by rfl, ?_⟩) ?_ ?_
      rotate_left
      ·intro w'
       go_simp
       with_reducible rfl
      rotate_left
      ·simp only [Act.put, sAa, sBb, sCc, i64_w, i32_w]
       rfl
      refine pure_ (i := 22) (N := some 48) (v := ?_) (a' := ?_) #[true, true, true, true, true, true, true, true, true, true, true, true, true, true, true, true, true, true, true, true, true, false, true, false, false, false, false, false, false, false, false, false, false, false, false, false, false, false, false] rfl rfl (any_of HT_.out (by kernel_rfl)) (fun _ _ _ h => h) (Or.inl ⟨by rfl, ?_⟩) ?_ ?_
      rotate_left
      ·intro w'
       go_simp
       with_reducible rfl
      rotate_left
      ·simp only [Act.put, sAa, sBb, sCc, i64_w, i32_w]
       rfl
      refine pure_ (i := 23) (N := some 49) (v := ?_) (a' := ?_) #[true, true, true, true, true, true, true, true, true, true, true, true, true, true, true, true, true, true, true, true, true, false, true, true, false, false, false, false, false, false, false, false, false, false, false, false, false, false, false] rfl rfl (any_of HT_.out (by kernel_rfl)) (fun _ _ _ h => h) (Or.inl ⟨by rfl, ?_⟩) ?_ ?_
      rotate_left
      ·intro w'
       go_simp
       with_reducible rfl
      rotate_left
      ·simp only [Act.put, sAa, sBb, sCc, i64_w, i32_w]
       rfl
      refine pure_ (i := 26) (N := some 52) (v := ?_) (a' := ?_) #[true, true, true, true, true, true, true, true, true, true, true, true, true, true, true, true, true, true, true, true, true, false, true, true, false, false, true, false, false, false, false, false, false, false, false, false, false, false, false] rfl rfl (any_of HT_.out (by kernel_rfl)) (fun _ _ _ h => h) (Or.inl ⟨by rfl, ?_⟩) ?_ ?_
      rotate_left
      ·intro w'
       go_simp
       with_reducible rfl
      rotate_left
      ·simp only [Act.put, sAa, sBb, sCc, i64_w, i32_w]
       rfl
      refine pure_ (i := 27) (N := some 53) (v := ?_) (a' := ?_) #[true, true, true, true, true, true, true, true, true, true, true, true, true, true, true, true, true, true, true, true, true, false, true, true, false, false, true, true, false, false, false, false, false, false, false, false, false, false, false] rfl rfl (any_of HT_.out (by kernel_rfl)) (fun _ _ _ h => h) (Or.inl ⟨by rfl, ?_⟩) ?_ ?_
      rotate_left
      ·intro w'
       go_simp
       with_reducible rfl
      rotate_left
      ·simp only [Act.put, sAa, sBb, sCc, i64_w, i32_w]
       rfl
      refine take_ (i := 21) (N := some 47) (v := ?_) (a' := ?_) #[true, true, true, true, true, true, true, true, true, true, true, true, true, true, true, true, true, true, true, true, true, true, true, true, false, false, true, true, false, false, false, false, false, false, false, false, false, false, false] rfl rfl (take_ofW HT_.out HW_.out (by kernel_rfl)) (fun _ _ _ h => h) (Or.inl ⟨by rfl, ?_⟩) hHeld ?_ ?_
      rotate_left
      ·rintro w' ⟨s0, s1, s2, s3, s4, s5, s6, s7, s8, s9, s10, s11, s12⟩
       go_simp
       with_reducible rfl
      rotate_left
      ·simp only [Act.put, sAa, sBb, sCc, i64_w, i32_w]
       rfl
      refine take_ (i := 25) (N := some 51) (v := ?_) (a' := ?_) #[true, true, true, true, true, true, true, true, true, true, true, true, true, true, true, true, true, true, true, true, true, true, true, true, false, true, true, true, false, false, false, false, false, false, false, false, false, false, false] rfl rfl (take_ofW HT_.out HW_.out (by kernel_rfl)) (fun _ _ _ h => h) (Or.inl ⟨by rfl, ?_⟩) hHeld ?_ ?_
      rotate_left
      ·rintro w' ⟨s0, s1, s2, s3, s4, s5, s6, s7, s8, s9, s10, s11, s12⟩
       go_simp
       with_reducible rfl
      rotate_left
      ·simp only [Act.put, sAa, sBb, sCc, i64_w, i32_w]
       rfl
      refine one_ (i := 24) (N := some 50) #[true, true, true, true, true, true, true, true, true, true, true, true, true, true, true, true, true, true, true, true, true, true, true, true, true, true, true, true, false, false, false, false, false, false, false, false, false, false, false] rfl rfl (one_of HT_.out (by kernel_rfl)) (by decide) (fun K hK => ?_)
      refine goes_ Tryd.func16 (by kernel_rfl) rfl #[.agg #[.slice Ao23 t328.length co23, .slice Ao25 t331.length co25, .int .i64 t334, .int .i64 t335, .int .i64 t336, .int .i64 t337, .int .i64 t338, .int .i64 t339, .int .i64 t340, .int .i64 t341, .int .i64 t342, .int .i64 t343, .int .i64 t344], .int .i64 (Int.tmod (wrap64 (a1)) (t328.length : Int)), .int .i64 (Int.tmod (wrap64 (a2)) (t328.length : Int))] (by rfl) rfl rfl (by (try simp only [List.map_toArray, List.map_cons, List.map_nil]); first | done | rfl | (simp only [List.length_drop, List.length_take]; rfl)) ?_
      with_reducible refine (hops_Way.calls k _ _ t328 _ _ t331 t334 t335 t336 t337 t338 t339 t340 t341 t342 t343 t344 (Int.tmod (wrap64 (a1)) (t328.length : Int)) (Int.tmod (wrap64 (a2)) (t328.length : Int)) t350 _ ?side1 ?side2 ?side3 ?side4 A14.out).mono ?_
      (case side1 => repeat (first | exact (Kd.R_reads' HO330.out).2.2 | (with_reducible refine Kd.C_alloc ?_ _) | (with_reducible refine Kd.C_drewN ?_ _) | (with_reducible refine Kd.C_drew ?_)))
      (case side2 => exact (Kd.R_reads' HO330.out).2.1)
      (case side3 => repeat (first | exact (Kd.R_reads' HO333.out).2.2 | (with_reducible refine Kd.C_alloc ?_ _) | (with_reducible refine Kd.C_drewN ?_ _) | (with_reducible refine Kd.C_drew ?_)))
      (case side4 => exact (Kd.R_reads' HO333.out).2.1)
      rintro e w33 ⟨v351, rfl, ho0, hb⟩
      refine ⟨_, rfl, ?_⟩
      have n0_ := Aside0.mk (Kd.R_below (by (with_reducible repeat (first | apply Kd.R_alloc | apply Kd.R_drewN | apply Kd.R_drew)); exact HO330.out) hb)
      have n1_ := Aside0.mk (Kd.R_below (by (with_reducible repeat (first | apply Kd.R_alloc | apply Kd.R_drewN | apply Kd.R_drew)); exact HO333.out) hb)
      have n2_ := Aside0.mk (Kd.R_lower ho0 (below_size (by repeat (first | (with_reducible first | exact HB.out | apply below_alloc | apply pw_below_drewN | apply below_drew1 | refine below_set ?_ GE345.out) | exact HB.out))))
      have n3_ := Aside0.mk (blk_below (g := gb345) (o := .cells #[.slice Ao23 t328.length co23, .slice Ao25 t331.length co25, .int .i64 t334, .int .i64 t335, .int .i64 t336, .int .i64 t337, .int .i64 t338, .int .i64 t339, .int .i64 t340, .int .i64 t341, .int .i64 t342, .int .i64 t343, .int .i64 t344] 25 (0, 0)) (by (with_reducible repeat (first | refine blk_drewN ?_ _ | refine blk_drew ?_ | refine blk_alloc ?_ _)); exact BK345.out) hb)
      have n4_ := Aside0.mk (below_step (by repeat (first | (with_reducible first | exact HB.out | apply below_alloc | apply pw_below_drewN | apply below_drew1 | refine below_set ?_ GE345.out) | exact HB.out)) hb)
      clear HO330
      clear HO333
      clear BK345
      clear HB
      have HO330 := n0_
      have HO333 := n1_
      have HO352 := n2_
      have BK345 := n3_
      have HB := n4_
      clear n0_ n1_ n2_ n3_ n4_
      (try clear hb)
      (try clear hb2)
      (try clear hk)
      (try clear hi)
      (try clear ho0)
      refine hK.out _ _ ⟨(blk_cell BK345.out 0).trans rfl, (blk_cell BK345.out 1).trans rfl, (blk_cell BK345.out 2).trans rfl, (blk_cell BK345.out 3).trans rfl, (blk_cell BK345.out 4).trans rfl, (blk_cell BK345.out 5).trans rfl, (blk_cell BK345.out 6).trans rfl, (blk_cell BK345.out 7).trans rfl, (blk_cell BK345.out 8).trans rfl, (blk_cell BK345.out 9).trans rfl, (blk_cell BK345.out 10).trans rfl, (blk_cell BK345.out 11).trans rfl, (blk_cell BK345.out 12).trans rfl⟩ (fun hHeld => ?_)
      clear hK K
      refine norm_ (a' := ?_) ?_ ?_
      rotate_left
      ·show Act.put _ (some 50) _ = _
       simp only [Act.put, sAa, sBb, sCc, i64_w, i32_w]
       rfl
      refine one_ (i := 28) (N := some 54) #[true, true, true, true, true, true, true, true, true, true, true, true, true, true, true, true, true, true, true, true, true, true, true, true, true, true, true, true, true, false, false, false, false, false, false, false, false, false, false] rfl rfl (one_of HT_.out (by kernel_rfl)) (by decide) (fun K hK => ?_)
      refine goes_ Tryd.func17 (by kernel_rfl) rfl #[.agg #[.slice Ao23 t328.length co23, .slice Ao25 t331.length co25, .int .i64 t334, .int .i64 t335, .int .i64 t336, .int .i64 t337, .int .i64 t338, .int .i64 t339, .int .i64 t340, .int .i64 t341, .int .i64 t342, .int .i64 t343, .int .i64 t344], .int .i64 (Int.tmod (wrap64 (a1)) (t328.length : Int)), .int .i64 (Int.tmod (wrap64 (a2)) (t328.length : Int))] (by rfl) rfl rfl (by (try simp only [List.map_toArray, List.map_cons, List.map_nil]); first | done | rfl | (simp only [List.length_drop, List.length_take]; rfl)) ?_
      with_reducible refine (drumlineref5_Way.calls k _ _ t328 _ _ t331 t334 t335 t336 t337 t338 t339 t340 t341 t342 t343 t344 (Int.tmod (wrap64 (a1)) (t328.length : Int)) (Int.tmod (wrap64 (a2)) (t328.length : Int)) t353 _ ?side1 ?side2 ?side3 ?side4 A15.out).mono ?_
      (case side1 => repeat (first | exact (Kd.R_reads' HO330.out).2.2 | (with_reducible refine Kd.C_alloc ?_ _) | (with_reducible refine Kd.C_drewN ?_ _) | (with_reducible refine Kd.C_drew ?_)))
      (case side2 => exact (Kd.R_reads' HO330.out).2.1)
      (case side3 => repeat (first | exact (Kd.R_reads' HO333.out).2.2 | (with_reducible refine Kd.C_alloc ?_ _) | (with_reducible refine Kd.C_drewN ?_ _) | (with_reducible refine Kd.C_drew ?_)))
      (case side4 => exact (Kd.R_reads' HO333.out).2.1)
      rintro e w34 ⟨v354, rfl, ho0, hb⟩
      refine ⟨_, rfl, ?_⟩
      have n0_ := Aside0.mk (Kd.R_below (by (with_reducible repeat (first | apply Kd.R_alloc | apply Kd.R_drewN | apply Kd.R_drew)); exact HO330.out) hb)
      have n1_ := Aside0.mk (Kd.R_below (by (with_reducible repeat (first | apply Kd.R_alloc | apply Kd.R_drewN | apply Kd.R_drew)); exact HO333.out) hb)
      have n2_ := Aside0.mk (Kd.R_elder' (by (with_reducible repeat (first | apply Kd.R_alloc | apply Kd.R_drewN | apply Kd.R_drew)); exact HO352.out) (Kd.R_base ho0) hb)
      have n3_ := Aside0.mk (Kd.R_lower (Kd.R_new' ho0 (Kd.R_lt (by (with_reducible repeat (first | apply Kd.R_alloc | apply Kd.R_drewN | apply Kd.R_drew)); exact HO352.out))) (below_size (by repeat (first | (with_reducible first | exact HB.out | apply below_alloc | apply pw_below_drewN | apply below_drew1 | refine below_set ?_ GE345.out) | exact HB.out))))
      have n4_ := Aside0.mk (blk_below (g := gb345) (o := .cells #[.slice Ao23 t328.length co23, .slice Ao25 t331.length co25, .int .i64 t334, .int .i64 t335, .int .i64 t336, .int .i64 t337, .int .i64 t338, .int .i64 t339, .int .i64 t340, .int .i64 t341, .int .i64 t342, .int .i64 t343, .int .i64 t344] 25 (0, 0)) (by (with_reducible repeat (first | refine blk_drewN ?_ _ | refine blk_drew ?_ | refine blk_alloc ?_ _)); exact BK345.out) hb)
      have n5_ := Aside0.mk (below_step (by repeat (first | (with_reducible first | exact HB.out | apply below_alloc | apply pw_below_drewN | apply below_drew1 | refine below_set ?_ GE345.out) | exact HB.out)) hb)
      clear HO330
      clear HO333
      clear HO352
      clear BK345
      clear HB
      have HO330 := n0_
      have HO333 := n1_
      have HO352 := n2_
      have HO355 := n3_
      have BK345 := n4_
      have HB := n5_
      clear n0_ n1_ n2_ n3_ n4_ n5_
      (try clear hb)
      (try clear hb2)
      (try clear hk)
      (try clear hi)
      (try clear ho0)
      obtain ⟨Ao35, co35, eo35⟩ := Kd.R_slice HO352.out
      (first | subst eo35 | (injection eo35 with f1_ f2_ f3_; have f4_ := f1_.symm; have f5_ := f3_.symm; clear f1_ f2_ f3_; subst f4_; subst f5_))
      obtain ⟨Ao36, co36, eo36⟩ := Kd.R_slice HO355.out
      (first | subst eo36 | (injection eo36 with f1_ f2_ f3_; have f4_ := f1_.symm; have f5_ := f3_.symm; clear f1_ f2_ f3_; subst f4_; subst f5_))
      refine hK.out _ _ ⟨(blk_cell BK345.out 0).trans rfl, (blk_cell BK345.out 1).trans rfl, (blk_cell BK345.out 2).trans rfl, (blk_cell BK345.out 3).trans rfl, (blk_cell BK345.out 4).trans rfl, (blk_cell BK345.out 5).trans rfl, (blk_cell BK345.out 6).trans rfl, (blk_cell BK345.out 7).trans rfl, (blk_cell BK345.out 8).trans rfl, (blk_cell BK345.out 9).trans rfl, (blk_cell BK345.out 10).trans rfl, (blk_cell BK345.out 11).trans rfl, (blk_cell BK345.out 12).trans rfl⟩ (fun hHeld => ?_)
      clear hK K
      refine norm_ (a' := ?_) ?_ ?_
      rotate_left
      ·show Act.put _ (some 54) _ = _
       simp only [Act.put, sAa, sBb, sCc, i64_w, i32_w]
       rfl
      refine one_ (i := 29) (N := some 55) #[true, true, true, true, true, true, true, true, true, true, true, true, true, true, true, true, true, true, true, true, true, true, true, true, true, true, true, true, true, true, false, false, false, false, false, false, false, false, false] rfl rfl (one_of HT_.out (by kernel_rfl)) (by decide) (fun K hK => ?_)
      refine goes_ Tryd.func15 (by kernel_rfl) rfl #[.slice Ao35 t350.length co35, .slice Ao36 t353.length co36] (by rfl) rfl rfl (by (try simp only [List.map_toArray, List.map_cons, List.map_nil]); first | done | rfl | (simp only [List.length_drop, List.length_take]; rfl)) ?_
      with_reducible refine (drumlineref1_SameInts.calls k _ _ t350 _ _ t353 true _ ?side1 ?side2 ?side3 ?side4 A16.out).mono ?_
      (case side1 => repeat (first | exact (Kd.R_reads' HO352.out).2.2 | (with_reducible refine Kd.C_alloc ?_ _) | (with_reducible refine Kd.C_drewN ?_ _) | (with_reducible refine Kd.C_drew ?_)))
      (case side2 => exact (Kd.R_reads' HO352.out).2.1)
      (case side3 => repeat (first | exact (Kd.R_reads' HO355.out).2.2 | (with_reducible refine Kd.C_alloc ?_ _) | (with_reducible refine Kd.C_drewN ?_ _) | (with_reducible refine Kd.C_drew ?_)))
      (case side4 => exact (Kd.R_reads' HO355.out).2.1)
      rintro e w' ⟨rfl, ⟨nd, rfl⟩⟩
      refine ⟨_, rfl, ?_⟩
      refine hK.out _ _ ⟨(blk_cell BK345.out 0).trans rfl, (blk_cell BK345.out 1).trans rfl, (blk_cell BK345.out 2).trans rfl, (blk_cell BK345.out 3).trans rfl, (blk_cell BK345.out 4).trans rfl, (blk_cell BK345.out 5).trans rfl, (blk_cell BK345.out 6).trans rfl, (blk_cell BK345.out 7).trans rfl, (blk_cell BK345.out 8).trans rfl, (blk_cell BK345.out 9).trans rfl, (blk_cell BK345.out 10).trans rfl, (blk_cell BK345.out 11).trans rfl, (blk_cell BK345.out 12).trans rfl⟩ (fun hHeld => ?_)
      clear hK K
      refine norm_ (a' := ?_) ?_ ?_
      rotate_left
      ·show Act.put _ (some 55) _ = _
       simp only [Act.put, sAa, sBb, sCc, i64_w, i32_w]
       rfl
      refine pure_ (i := 30) (N := some 56) (v := ?_) (a' := ?_) #[true, true, true, true, true, true, true, true, true, true, true, true, true, true, true, true, true, true, true, true, true, true, true, true, true, true, true, true, true, true, true, false, false, false, false, false, false, false, false] rfl rfl (any_of HT_.out (by kernel_rfl)) (fun _ _ _ h => h) (Or.inl ⟨by rfl, ?_⟩) ?_ ?_
      rotate_left
      ·intro w'
       go_simp
       with_reducible rfl
      rotate_left
      ·simp only [Act.put, sAa, sBb, sCc, i64_w, i32_w]
       rfl
      refine pure_ (i := 31) (N := some 57) (v := ?_) (a' := ?_) #[true, true, true, true, true, true, true, true, true, true, true, true, true, true, true, true, true, true, true, true, true, true, true, true, true, true, true, true, true, true, true, true, false, false, false, false, false, false, false] rfl rfl (any_of HT_.out (by kernel_rfl)) (fun _ _ _ h => h) (Or.inl ⟨by rfl, ?_⟩) ?_ ?_
      rotate_left
      ·intro w'
       go_simp
       with_reducible rfl
      rotate_left
      ·simp only [Act.put, sAa, sBb, sCc, i64_w, i32_w]
       rfl
      refine take_ (i := 32) (N := some 58) (v := ?_) (a' := ?_) #[true, true, true, true, true, true, true, true, true, true, true, true, true, true, true, true, true, true, true, true, true, true, true, true, true, true, true, true, true, true, true, true, true, false, false, false, false, false, false] rfl rfl (take_ofW HT_.out HW_.out (by kernel_rfl)) (fun _ _ _ h => h) (Or.inl ⟨by rfl, ?_⟩) hHeld ?_ ?_
      rotate_left
      ·rintro w' ⟨s0, s1, s2, s3, s4, s5, s6, s7, s8, s9, s10, s11, s12⟩
       go_simp
       with_reducible rfl
      rotate_left
      ·simp only [Act.put, sAa, sBb, sCc, i64_w, i32_w]
       rfl
      refine take_ (i := 34) (N := some 60) (v := ?_) (a' := ?_) #[true, true, true, true, true, true, true, true, true, true, true, true, true, true, true, true, true, true, true, true, true, true, true, true, true, true, true, true, true, true, true, true, true, false, true, false, false, false, false] rfl rfl (take_ofW HT_.out HW_.out (by kernel_rfl)) (fun _ _ _ h => h) (Or.inl ⟨by rfl, ?_⟩) hHeld ?_ ?_
      rotate_left
      ·rintro w' ⟨s0, s1, s2, s3, s4, s5, s6, s7, s8, s9, s10, s11, s12⟩
       go_simp
       with_reducible rfl
      rotate_left
      ·simp only [Act.put, sAa, sBb, sCc, i64_w, i32_w]
       rfl
      refine one_ (i := 33) (N := some 59) #[true, true, true, true, true, true, true, true, true, true, true, true, true, true, true, true, true, true, true, true, true, true, true, true, true, true, true, true, true, true, true, true, true, true, true, false, false, false, false] rfl rfl (one_of HT_.out (by kernel_rfl)) (by decide) (fun K hK => ?_)
      refine goes_ Tryd.func18 (by kernel_rfl) rfl #[.agg #[.slice Ao23 t328.length co23, .slice Ao25 t331.length co25, .int .i64 t334, .int .i64 t335, .int .i64 t336, .int .i64 t337, .int .i64 t338, .int .i64 t339, .int .i64 t340, .int .i64 t341, .int .i64 t342, .int .i64 t343, .int .i64 t344]] (by rfl) rfl rfl (by (try simp only [List.map_toArray, List.map_cons, List.map_nil]); first | done | rfl | (simp only [List.length_drop, List.length_take]; rfl)) ?_
      with_reducible refine (hops_Width.calls k _ _ t328 _ _ t331 t334 t335 t336 t337 t338 t339 t340 t341 t342 t343 t344 t357 _ ?side1 ?side2 ?side3 ?side4 A18.out).mono ?_
      (case side1 => repeat (first | exact (Kd.R_reads' HO330.out).2.2 | (with_reducible refine Kd.C_alloc ?_ _) | (with_reducible refine Kd.C_drewN ?_ _) | (with_reducible refine Kd.C_drew ?_)))
      (case side2 => exact (Kd.R_reads' HO330.out).2.1)
      (case side3 => repeat (first | exact (Kd.R_reads' HO333.out).2.2 | (with_reducible refine Kd.C_alloc ?_ _) | (with_reducible refine Kd.C_drewN ?_ _) | (with_reducible refine Kd.C_drew ?_)))
      (case side4 => exact (Kd.R_reads' HO333.out).2.1)
      rintro e w37 ⟨rfl, hb⟩
      refine ⟨_, rfl, ?_⟩
      have n0_ := Aside0.mk (Kd.R_below (by (with_reducible repeat (first | apply Kd.R_alloc | apply Kd.R_drewN | apply Kd.R_drew)); exact HO330.out) hb)
      have n1_ := Aside0.mk (Kd.R_below (by (with_reducible repeat (first | apply Kd.R_alloc | apply Kd.R_drewN | apply Kd.R_drew)); exact HO333.out) hb)
      have n2_ := Aside0.mk (Kd.R_below (by (with_reducible repeat (first | apply Kd.R_alloc | apply Kd.R_drewN | apply Kd.R_drew)); exact HO352.out) hb)
      have n3_ := Aside0.mk (Kd.R_below (by (with_reducible repeat (first | apply Kd.R_alloc | apply Kd.R_drewN | apply Kd.R_drew)); exact HO355.out) hb)
      have n4_ := Aside0.mk (blk_below (g := gb345) (o := .cells #[.slice Ao23 t328.length co23, .slice Ao25 t331.length co25, .int .i64 t334, .int .i64 t335, .int .i64 t336, .int .i64 t337, .int .i64 t338, .int .i64 t339, .int .i64 t340, .int .i64 t341, .int .i64 t342, .int .i64 t343, .int .i64 t344] 25 (0, 0)) (by (with_reducible repeat (first | refine blk_drewN ?_ _ | refine blk_drew ?_ | refine blk_alloc ?_ _)); exact BK345.out) hb)
      have n5_ := Aside0.mk (below_step (by repeat (first | (with_reducible first | exact HB.out | apply below_alloc | apply pw_below_drewN | apply below_drew1 | refine below_set ?_ GE345.out) | exact HB.out)) hb)
      clear HO330
      clear HO333
      clear HO352
      clear HO355
      clear BK345
      clear HB
      have HO330 := n0_
      have HO333 := n1_
      have HO352 := n2_
      have HO355 := n3_
      have BK345 := n4_
      have HB := n5_
      clear n0_ n1_ n2_ n3_ n4_ n5_
      (try clear hb)
      (try clear hb2)
      (try clear hk)
      (try clear hi)
      refine hK.out _ _ ⟨(blk_cell BK345.out 0).trans rfl, (blk_cell BK345.out 1).trans rfl, (blk_cell BK345.out 2).trans rfl, (blk_cell BK345.out 3).trans rfl, (blk_cell BK345.out 4).trans rfl, (blk_cell BK345.out 5).trans rfl, (blk_cell BK345.out 6).trans rfl, (blk_cell BK345.out 7).trans rfl, (blk_cell BK345.out 8).trans rfl, (blk_cell BK345.out 9).trans rfl, (blk_cell BK345.out 10).trans rfl, (blk_cell BK345.out 11).trans rfl, (blk_cell BK345.out 12).trans rfl⟩ (fun hHeld => ?_)
      clear hK K
      refine norm_ (a' := ?_) ?_ ?_
      rotate_left
      ·show Act.put _ (some 59) _ = _
       simp only [Act.put, sAa, sBb, sCc, i64_w, i32_w]
       rfl
      refine one_ (i := 35) (N := some 61) #[true, true, true, true, true, true, true, true, true, true, true, true, true, true, true, true, true, true, true, true, true, true, true, true, true, true, true, true, true, true, true, true, true, true, true, true, false, false, false] rfl rfl (one_of HT_.out (by kernel_rfl)) (by decide) (fun K hK => ?_)
      refine goes_ Tryd.func19 (by kernel_rfl) rfl #[.agg #[.slice Ao23 t328.length co23, .slice Ao25 t331.length co25, .int .i64 t334, .int .i64 t335, .int .i64 t336, .int .i64 t337, .int .i64 t338, .int .i64 t339, .int .i64 t340, .int .i64 t341, .int .i64 t342, .int .i64 t343, .int .i64 t344]] (by rfl) rfl rfl (by (try simp only [List.map_toArray, List.map_cons, List.map_nil]); first | done | rfl | (simp only [List.length_drop, List.length_take]; rfl)) ?_
      with_reducible refine (drumlineref5_Width.calls k _ _ t328 _ _ t331 t334 t335 t336 t337 t338 t339 t340 t341 t342 t343 t344 t358 _ ?side1 ?side2 ?side3 ?side4 A19.out).mono ?_
      (case side1 => repeat (first | exact (Kd.R_reads' HO330.out).2.2 | (with_reducible refine Kd.C_alloc ?_ _) | (with_reducible refine Kd.C_drewN ?_ _) | (with_reducible refine Kd.C_drew ?_)))
      (case side2 => exact (Kd.R_reads' HO330.out).2.1)
      (case side3 => repeat (first | exact (Kd.R_reads' HO333.out).2.2 | (with_reducible refine Kd.C_alloc ?_ _) | (with_reducible refine Kd.C_drewN ?_ _) | (with_reducible refine Kd.C_drew ?_)))
      (case side4 => exact (Kd.R_reads' HO333.out).2.1)
      rintro e w38 ⟨rfl, hb⟩
      refine ⟨_, rfl, ?_⟩
      have n0_ := Aside0.mk (Kd.R_below (by (with_reducible repeat (first | apply Kd.R_alloc | apply Kd.R_drewN | apply Kd.R_drew)); exact HO330.out) hb)
      have n1_ := Aside0.mk (Kd.R_below (by (with_reducible repeat (first | apply Kd.R_alloc | apply Kd.R_drewN | apply Kd.R_drew)); exact HO333.out) hb)
      have n2_ := Aside0.mk (Kd.R_below (by (with_reducible repeat (first | apply Kd.R_alloc | apply Kd.R_drewN | apply Kd.R_drew)); exact HO352.out) hb)
      have n3_ := Aside0.mk (Kd.R_below (by (with_reducible repeat (first | apply Kd.R_alloc | apply Kd.R_drewN | apply Kd.R_drew)); exact HO355.out) hb)
      have n4_ := Aside0.mk (blk_below (g := gb345) (o := .cells #[.slice Ao23 t328.length co23, .slice Ao25 t331.length co25, .int .i64 t334, .int .i64 t335, .int .i64 t336, .int .i64 t337, .int .i64 t338, .int .i64 t339, .int .i64 t340, .int .i64 t341, .int .i64 t342, .int .i64 t343, .int .i64 t344] 25 (0, 0)) (by (with_reducible repeat (first | refine blk_drewN ?_ _ | refine blk_drew ?_ | refine blk_alloc ?_ _)); exact BK345.out) hb)
      have n5_ := Aside0.mk (below_step (by repeat (first | (with_reducible first | exact HB.out | apply below_alloc | apply pw_below_drewN | apply below_drew1 | refine below_set ?_ GE345.out) | exact HB.out)) hb)
      clear HO330
      clear HO333
      clear HO352
      clear HO355
      clear BK345
      clear HB
      have HO330 := n0_
      have HO333 := n1_
      have HO352 := n2_
      have HO355 := n3_
      have BK345 := n4_
      have HB := n5_
      clear n0_ n1_ n2_ n3_ n4_ n5_
      (try clear hb)
      (try clear hb2)
      (try clear hk)
      (try clear hi)
      refine hK.out _ _ ⟨(blk_cell BK345.out 0).trans rfl, (blk_cell BK345.out 1).trans rfl, (blk_cell BK345.out 2).trans rfl, (blk_cell BK345.out 3).trans rfl, (blk_cell BK345.out 4).trans rfl, (blk_cell BK345.out 5).trans rfl, (blk_cell BK345.out 6).trans rfl, (blk_cell BK345.out 7).trans rfl, (blk_cell BK345.out 8).trans rfl, (blk_cell BK345.out 9).trans rfl, (blk_cell BK345.out 10).trans rfl, (blk_cell BK345.out 11).trans rfl, (blk_cell BK345.out 12).trans rfl⟩ (fun hHeld => ?_)
      clear hK K
      refine norm_ (a' := ?_) ?_ ?_
      rotate_left
      ·show Act.put _ (some 61) _ = _
       simp only [Act.put, sAa, sBb, sCc, i64_w, i32_w]
       rfl
      refine pure_ (i := 36) (N := some 62) (v := ?_) (a' := ?_) #[true, true, true, true, true, true, true, true, true, true, true, true, true, true, true, true, true, true, true, true, true, true, true, true, true, true, true, true, true, true, true, true, true, true, true, true, true, false, false] rfl rfl (any_of HT_.out (by kernel_rfl)) (fun _ _ _ h => h) (Or.inl ⟨by rfl, ?_⟩) ?_ ?_
      rotate_left
      ·intro w'
       go_simp
       with_reducible rfl
      rotate_left
      ·simp only [Act.put, sAa, sBb, sCc, i64_w, i32_w]
       rfl
      refine pure_ (i := 37) (N := some 63) (v := ?_) (a' := ?_) #[true, true, true, true, true, true, true, true, true, true, true, true, true, true, true, true, true, true, true, true, true, true, true, true, true, true, true, true, true, true, true, true, true, true, true, true, true, true, false] rfl rfl (any_of HT_.out (by kernel_rfl)) (fun _ _ _ h => h) (Or.inl ⟨by rfl, ?_⟩) ?_ ?_
      rotate_left
      ·intro w'
       go_simp
       with_reducible rfl
      rotate_left
      ·simp only [Act.put, sAa, sBb, sCc, i64_w, i32_w]
       rfl
      refine pure_ (i := 38) (N := some 6) (v := ?_) (a' := ?_) #[true, true, true, true, true, true, true, true, true, true, true, true, true, true, true, true, true, true, true, true, true, true, true, true, true, true, true, true, true, true, true, true, true, true, true, true, true, true, true] rfl rfl (any_of HT_.out (by kernel_rfl)) (fun _ _ _ h => h) (Or.inl ⟨by rfl, ?_⟩) ?_ ?_
      rotate_left
      ·intro w'
       go_simp
       with_reducible rfl
      rotate_left
      ·simp only [Act.put, sAa, sBb, sCc, i64_w, i32_w]
       rfl
      refine done_ (done_of HT_.out (by kernel_rfl)) ?_
      try go_wp2
      go_ret
      exact ⟨by first | rfl | (simp [errW_none, errW_some] <;> rfl) | (simp [*, errW_none, errW_some] <;> rfl), by repeat (first | (with_reducible first | exact HB.out | apply below_alloc | apply pw_below_drewN | apply below_drew1 | refine below_set ?_ GE345.out) | exact HB.out)⟩
     ·replace c17 := Bool.eq_false_iff.mpr c17
      subst c17
      have H1 : (some false) = some r := by rw [if_neg (show ¬ (false = true) by decide)] at H; exact H
      clear H
      have H := H1
      clear H1
      rw [hr] at H
      exact absurd H (by decide)
    ·rw [if_neg c13] at H
     have c13b0 : (t348 == t349) = false := beq_eq_false_iff_ne.mpr c13
     have c13b1 : (t348 != t349) = true := bne_iff_ne.mpr c13
     rw [hr] at H
     exact absurd H (by decide)
   ·rw [if_neg c10] at H
    have c10b0 : (t346 == t347) = false := beq_eq_false_iff_ne.mpr c10
    have c10b1 : (t346 != t347) = true := bne_iff_ne.mpr c10
    rw [hr] at H
    exact absurd H (by decide)
 ·replace c5 := Bool.eq_false_iff.mpr c5
  subst c5
  have H1 : (some false) = some r := by rw [if_neg (show ¬ (false = true) by decide)] at H; exact H
  clear H
  have H := H1
  clear H1
  rw [hr] at H
  exact absurd H (by decide)
def drumlinelaw6_HopsMade.Pure : Prop := ∀ (a0 : Int) (a1 : Int) (a2 : Int), (Lit.int .i64 a0).wf = true → (Lit.int .u8 a1).wf = true → (Lit.int .u8 a2).wf = true → ∃ k, drumlinelaw6_HopsMade.f k a0 a1 a2 = some true
theorem drumlinelaw6_HopsMade.walk (P : drumlinelaw6_HopsMade.Pure) (a0 : Int) (a1 : Int) (a2 : Int) (w : World) (w0 : (Lit.int .i64 a0).wf = true) (w1 : (Lit.int .u8 a1).wf = true) (w2 : (Lit.int .u8 a2).wf = true) :
  Calls Tryd.prog 4 #[.int .i64 a0, .int .u8 a1, .int .u8 a2] w fun e w' => e = .returned (.bool true) ∧ Below w.heap.size w w' := by
 obtain ⟨k, h⟩ := P a0 a1 a2 w0 w1 w2
 refine (drumlinelaw6_HopsMade.calls k a0 a1 a2 true w h rfl).mono ?_
 rintro e w' ⟨rfl, hd⟩
 exact ⟨rfl, hd⟩
end Go.Proofs.YtkhlndhleiaokaaDoor.MHo
set_option linter.unusedVariables false
namespace Go.Proofs.YtkhlndhleiaokaaDoor.MHo
open Go.RowKit Go.Proofs.YtkhlndhleiaokaaDoorW.PrintWords
theorem made_cases {X : Nat → Nat → Prop} (h : X 1 0 ∧ X 1 1 ∧ X 1 2 ∧ X 1 3 ∧ X 2 0 ∧ X 2 1 ∧ X 2 2 ∧ X 2 3 ∧ X 3 0 ∧ X 3 1 ∧ X 3 2 ∧ X 3 3 ∧ X 4 0 ∧ X 4 1 ∧ X 4 2 ∧ X 4 3) (q s : Nat) (h1 : 1 ≤ q) (h4 : q ≤ 4) (h3 : s ≤ 3) : X q s := by
 obtain ⟨a1, a2, a3, a4, b1, b2, b3, b4, c1, c2, c3, c4, d1, d2, d3, d4⟩ := h
 rcases (show q = 1 ∨ q = 2 ∨ q = 3 ∨ q = 4 by omega) with rfl | rfl | rfl | rfl <;> rcases (show s = 0 ∨ s = 1 ∨ s = 2 ∨ s = 3 by omega) with rfl | rfl | rfl | rfl <;> assumption
theorem right_made (a2 a3 a4 a5 a6 a7 a8 a9 a10 a11 a12 : Int) (q s : Nat) (h1 : 1 ≤ q) (h4 : q ≤ 4) (h3 : s ≤ 3) : plan_Right.f (madeNet q s).1 (madeNet q s).2 a2 a3 a4 a5 a6 a7 a8 a9 a10 a11 a12 = some true := by
 refine made_cases (X := fun q s => plan_Right.f (madeNet q s).1 (madeNet q s).2 a2 a3 a4 a5 a6 a7 a8 a9 a10 a11 a12 = some true) ⟨?_, ?_, ?_, ?_, ?_, ?_, ?_, ?_, ?_, ?_, ?_, ?_, ?_, ?_, ?_, ?_⟩ q s h1 h4 h3 <;> kernel_rfl
theorem good_made (a2 a3 a4 a5 a6 a7 a8 a9 a10 a11 a12 : Int) (q s : Nat) (h1 : 1 ≤ q) (h4 : q ≤ 4) (h3 : s ≤ 3) : drumlineref5_Good.f (madeNet q s).1 (madeNet q s).2 a2 a3 a4 a5 a6 a7 a8 a9 a10 a11 a12 0 = some true := by
 refine made_cases (X := fun q s => drumlineref5_Good.f (madeNet q s).1 (madeNet q s).2 a2 a3 a4 a5 a6 a7 a8 a9 a10 a11 a12 0 = some true) ⟨?_, ?_, ?_, ?_, ?_, ?_, ?_, ?_, ?_, ?_, ?_, ?_, ?_, ?_, ?_, ?_⟩ q s h1 h4 h3 <;> kernel_rfl
end Go.Proofs.YtkhlndhleiaokaaDoor.MHo
set_option linter.unusedVariables false
set_option linter.unusedSimpArgs false
namespace Go.Proofs.YtkhlndhleiaokaaDoor.MHo
open Go.RowKit Go.Proofs.YtkhlndhleiaokaaDoorW.PrintWords
def up (d : Int) : Int := (d + 999999) / 1000000
theorem ceil_eq {d : Int} (h0 : 0 ≤ d) (h1 : d ≤ 1000000000000) : drumlineref1_Ceil.f d 1000000 = some (up d, true) := by
 unfold drumlineref1_Ceil.f up
 rw [if_neg (by omega), if_neg (by omega), Int.tmod_eq_emod_of_nonneg h0, Int.tdiv_eq_ediv_of_nonneg h0]
 have e : wrap64 (d / 1000000) = d / 1000000 := by unfold wrap64; omega
 rw [e]
 by_cases h : d % 1000000 > 0
 ·rw [if_pos h, show wrap64 (d / 1000000 + 1) = d / 1000000 + 1 by unfold wrap64; omega, show d / 1000000 + 1 = (d + 999999) / 1000000 by omega]
 ·rw [if_neg h, show d / 1000000 = (d + 999999) / 1000000 by omega]
theorem up_eq {d : Int} (h0 : 0 ≤ d) (h1 : d ≤ 1000000000000) : drumlineref5_up.f d = some (up d) := by
 unfold drumlineref5_up.f; rw [ceil_eq h0 h1]; rfl
def Eg (dr cyc : Int) : Int := up (2 * dr * cyc) + 1
theorem dc_bd {dr cyc : Int} (h1 : 0 ≤ dr) (h2 : dr ≤ 140) (h3 : 20000 ≤ cyc) (h4 : cyc ≤ 27000) : 0 ≤ dr * cyc ∧ dr * cyc ≤ 3780000 ∧ 2 * dr * cyc = 2 * (dr * cyc) := by
 refine ⟨Int.mul_nonneg h1 (by omega), ?_, Int.mul_assoc 2 dr cyc⟩
 calc dr * cyc ≤ 140 * cyc := Int.mul_le_mul_of_nonneg_right h2 (by omega)
  _ ≤ 3780000 := by omega
theorem Eg_bd {dr cyc : Int} (h1 : 0 ≤ dr) (h2 : dr ≤ 140) (h3 : 20000 ≤ cyc) (h4 : cyc ≤ 27000) : 1 ≤ Eg dr cyc ∧ Eg dr cyc ≤ 9 := by
 have := dc_bd h1 h2 h3 h4
 unfold Eg up; omega
theorem edge_eq (P : List S60) (L : List S37) {a2 a3 a4 a5 a6 a7 a8 a9 a10 a11 a12 : Int} (h1 : 0 ≤ a6) (h2 : a6 ≤ 140) (h3 : 20000 ≤ a2) (h4 : a2 ≤ 27000) : drumlineref5_edge.f P L a2 a3 a4 a5 a6 a7 a8 a9 a10 a11 a12 = some (Eg a6 a2) := by
 have hb := dc_bd h1 h2 h3 h4
 unfold drumlineref5_edge.f
 rw [show wrap64 (2 * a6) = 2 * a6 by unfold wrap64; omega, show wrap64 (2 * a6 * a2) = 2 * a6 * a2 by unfold wrap64; omega, up_eq (by omega) (by omega)]
 simp only [Option.bind_some]
 have := Eg_bd h1 h2 h3 h4
 unfold Eg at *
 rw [show wrap64 (up (2 * a6 * a2) + 1) = up (2 * a6 * a2) + 1 by unfold wrap64; omega]
theorem out_eq (P : List S60) (L : List S37) {a2 a3 a4 a5 a6 a7 a8 a9 a10 a11 a12 : Int} (k : Nat) (h1 : 1000 ≤ a2) (h2 : a2 ≤ 1000000) (h3 : 0 ≤ a6) (h4 : a6 ≤ 500) (h5 : 0 ≤ a7) (h6 : a7 ≤ 400000) (h7 : 1 ≤ a8) (h8 : a8 ≤ 200) (h9 : 0 ≤ a9) (h10 : a9 ≤ 20) :
  drumlineref5_out.f (k + 4) P L a2 a3 a4 a5 a6 a7 a8 a9 a10 a11 a12 = some 0 := by
 unfold drumlineref5_out.f
 rw [if_neg (by omega), show decide (a2 > 1000000) = false from decide_eq_false (by omega), drumlineref5_out.j0, if_neg (by decide), if_neg (by omega), show decide (a6 > 500) = false from decide_eq_false (by omega), drumlineref5_out.j1, if_neg (by decide), if_neg (by omega), show decide (a7 > 400000) = false from decide_eq_false (by omega), drumlineref5_out.j2, if_neg (by decide), if_neg (by omega), show decide (a8 > 200) = false from decide_eq_false (by omega), drumlineref5_out.j3, if_neg (by decide), if_neg (by omega), if_neg (by omega)]
theorem Edge_eq (q s : Nat) {a2 a3 a4 a5 a6 a7 a8 a9 a10 a11 a12 : Int} (g1 : 1 ≤ q) (g4 : q ≤ 4) (g3 : s ≤ 3) (h1 : 0 ≤ a6) (h2 : a6 ≤ 140) (h3 : 20000 ≤ a2) (h4 : a2 ≤ 27000) (h5 : 0 ≤ a7) (h6 : a7 ≤ 400000) (h7 : 1 ≤ a8) (h8 : a8 ≤ 200) (h9 : 0 ≤ a9) (h10 : a9 ≤ 20) :
  drumlineref5_Edge.f 100 (madeNet q s).1 (madeNet q s).2 a2 a3 a4 a5 a6 a7 a8 a9 a10 a11 a12 = some (Eg a6 a2) := by
 unfold drumlineref5_Edge.f drumlineref5_ranged.f
 rw [good_made a2 a3 a4 a5 a6 a7 a8 a9 a10 a11 a12 q s g1 g4 g3]
 simp only [Option.bind_some, if_true]
 rw [show drumlineref5_out.f 100 (madeNet q s).1 (madeNet q s).2 a2 a3 a4 a5 a6 a7 a8 a9 a10 a11 a12 = some 0 from out_eq _ _ 96 (by omega) (by omega) h1 (by omega) h5 h6 h7 h8 h9 h10]
 simp only [Option.bind_some, beq_self_eq_true, if_true]
 rw [edge_eq _ _ h1 h2 h3 h4]
 rfl
theorem made_eq (n : Int) : ∃ (q s : Nat) (cyc dr ag lo li sp : Int), 1 ≤ q ∧ q ≤ 4 ∧ s ≤ 3 ∧ 20000 ≤ cyc ∧ cyc ≤ 27000 ∧ 0 ≤ dr ∧ dr ≤ 140 ∧ 1 ≤ ag ∧ ag ≤ 200 ∧ 0 ≤ lo ∧ lo ≤ 20 ∧
  drumlineref26_Made.f n = some ((madeNet q s).1, (madeNet q s).2, cyc, 60, 100, 3 * Eg dr cyc, dr, 300000, ag, lo, li, sp, 12) := by
 have hk : 0 ≤ (((1 + n % 65536 % 4).toNat : Int) - 1) * (n % 65536 / 1024 % 2 + 1) ∧ (((1 + n % 65536 % 4).toNat : Int) - 1) * (n % 65536 / 1024 % 2 + 1) ≤ 8 := by
  rcases (show n % 65536 / 1024 % 2 = 0 ∨ n % 65536 / 1024 % 2 = 1 by omega) with h | h <;> rw [h] <;> omega
 refine ⟨(1 + n % 65536 % 4).toNat, (n % 65536 / 4 % 4).toNat, 20000 + 1000 * (n % 65536 / 16 % 8), 20 * (n % 65536 / 128 % 8), (((1 + n % 65536 % 4).toNat : Int) - 1) * (n % 65536 / 1024 % 2 + 1) + 1 + n % 65536 / 2048 % 4, n % 65536 / 1024 % 2, ((1 + n % 65536 % 4).toNat : Int) * (n % 65536 / 1024 % 2 + 1) + 2 + n % 65536 / 8192 % 2, ((1 + n % 65536 % 4).toNat : Int) * (n % 65536 / 1024 % 2 + 1) + 2, by omega, by omega, by omega, by omega, by omega, by omega, by omega, by omega, by omega, by omega, by omega, ?_⟩
 unfold drumlineref26_Made.f
 rw [Edge_eq _ _ (by omega) (by omega) (by omega) (by omega) (by omega) (by omega) (by omega) (by omega) (by omega) (by omega) (by omega) (by omega) (by omega)]
 simp only [Option.bind_some]
 have := Eg_bd (dr := 20 * (n % 65536 / 128 % 8)) (cyc := 20000 + 1000 * (n % 65536 / 16 % 8)) (by omega) (by omega) (by omega) (by omega)
 rw [if_pos (by omega)]
end Go.Proofs.YtkhlndhleiaokaaDoor.MHo
set_option linter.unusedVariables false
set_option linter.unusedSimpArgs false
namespace Go.Proofs.YtkhlndhleiaokaaDoor.Pure
open Go.RowKit Go.Proofs.YtkhlndhleiaokaaDoor.MHo Go.Proofs.YtkhlndhleiaokaaDoorW.PrintWords Go.Proofs.YtkhlndhleiaokaaDoorW.PrintLast Go.Proofs.YtkhlndhleiaokaaDoorW.PrintMore
theorem made_len (q s : Nat) (h1 : 1 ≤ q) (h4 : q ≤ 4) (h3 : s ≤ 3) : (madeNet q s).1.length = q := by
 refine made_cases (X := fun q s => (madeNet q s).1.length = q) ⟨?_, ?_, ?_, ?_, ?_, ?_, ?_, ?_, ?_, ?_, ?_, ?_, ?_, ?_, ?_, ?_⟩ q s h1 h4 h3 <;> rfl
theorem rem_made {a : Int} (h : (Lit.int .u8 a).wf = true) (q s : Nat) (h1 : 1 ≤ q) (h4 : q ≤ 4) (h3 : s ≤ 3) : ∃ x : Nat, x < q ∧ Int.tmod (wrap64 a) ((madeNet q s).1.length : Int) = (x : Int) := by
 have hb : 0 ≤ a ∧ a ≤ 255 := by
  simp [Lit.wf, IntKind.min, IntKind.max, IntKind.signed, IntKind.bits] at h
  omega
 rw [made_len q s h1 h4 h3]
 have hw : wrap64 a = a := by unfold wrap64; omega
 rw [hw, Int.tmod_eq_emod_of_nonneg hb.1]
 have e0 := Int.emod_nonneg a (show (q : Int) ≠ 0 by omega)
 have e1 := Int.emod_lt_of_pos a (show (0 : Int) < q by omega)
 exact ⟨(a % (q : Int)).toNat, by omega, by omega⟩
end Go.Proofs.YtkhlndhleiaokaaDoor.Pure
set_option linter.unusedVariables false
set_option linter.unusedSimpArgs false
namespace Go.Proofs.YtkhlndhleiaokaaDoor.Pure
open Go.RowKit Go.Proofs.YtkhlndhleiaokaaDoor.MHo Go.Proofs.YtkhlndhleiaokaaDoorW.PrintWords Go.Proofs.YtkhlndhleiaokaaDoorW.PrintLast Go.Proofs.YtkhlndhleiaokaaDoorW.PrintMore
theorem HopsMade : drumlinelaw6_HopsMade.Pure := by
 intro a0 a1 a2 w0 w1 w2
 obtain ⟨q, s, cyc, dr, ag, lo, li, sp, hq1, hq4, hs3, c1, c2, d1, d2, g1, g2, l1, l2, hm⟩ := made_eq a0
 refine ⟨200, ?_⟩
 unfold drumlinelaw6_HopsMade.f
 rw [show drumlinelaw6_alive.f 200 = some true by kernel_rfl]
 simp only [Option.bind_some, if_true]
 rw [hm]
 simp only [Option.bind_some]
 generalize 3 * Eg dr cyc = win
 obtain ⟨x, hx, ex⟩ := rem_made w1 q s hq1 hq4 hs3
 rw [ex]
 obtain ⟨y, hy, ey⟩ := rem_made w2 q s hq1 hq4 hs3
 rw [ey]
 clear hm c1 c2 d1 d2 g1 g2 l1 l2 ex ey w0 w1 w2
 rcases (show q = 1 ∨ q = 2 ∨ q = 3 ∨ q = 4 by omega) with rfl | rfl | rfl | rfl
 ·rcases (show s = 0 ∨ s = 1 ∨ s = 2 ∨ s = 3 by omega) with rfl | rfl | rfl | rfl <;> rcases (show x = 0 by omega) with rfl <;> rcases (show y = 0 by omega) with rfl <;> kernel_rfl
 ·rcases (show s = 0 ∨ s = 1 ∨ s = 2 ∨ s = 3 by omega) with rfl | rfl | rfl | rfl <;> rcases (show x = 0 ∨ x = 1 by omega) with rfl | rfl <;> rcases (show y = 0 ∨ y = 1 by omega) with rfl | rfl <;> kernel_rfl
 ·rcases (show s = 0 ∨ s = 1 ∨ s = 2 ∨ s = 3 by omega) with rfl | rfl | rfl | rfl <;> rcases (show x = 0 ∨ x = 1 ∨ x = 2 by omega) with rfl | rfl | rfl <;> rcases (show y = 0 ∨ y = 1 ∨ y = 2 by omega) with rfl | rfl | rfl <;> kernel_rfl
 ·rcases (show s = 0 ∨ s = 1 ∨ s = 2 ∨ s = 3 by omega) with rfl | rfl | rfl | rfl <;> rcases (show x = 0 ∨ x = 1 ∨ x = 2 ∨ x = 3 by omega) with rfl | rfl | rfl | rfl <;> rcases (show y = 0 ∨ y = 1 ∨ y = 2 ∨ y = 3 by omega) with rfl | rfl | rfl | rfl <;> kernel_rfl
end Go.Proofs.YtkhlndhleiaokaaDoor.Pure
