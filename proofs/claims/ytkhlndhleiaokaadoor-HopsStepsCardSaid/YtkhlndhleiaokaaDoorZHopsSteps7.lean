/- Texts that HopsSteps leans on, laid together by a program (wip/d/merge.py): MHox63. -/
import Derived.Test.YtkhlndhleiaokaaDoorZHopsSteps1
import Derived.Test.YtkhlndhleiaokaaDoorZHopsSteps3
import Derived.Test.YtkhlndhleiaokaaDoorZHopsSteps6
namespace Go.Proofs.YtkhlndhleiaokaaDoor.MHo
open Go.RowKit Go.Proofs.YtkhlndhleiaokaaDoorW.PrintWords Go.Proofs.YtkhlndhleiaokaaDoorW.PrintLast Go.Proofs.YtkhlndhleiaokaaDoorW.PrintMore
attribute [local go_sem] mp_u32s mp_u32m mp_u8s mp_u8m max2_int min2_int max_two min_two max_three min_three max_four min_four
set_option linter.unusedVariables false
set_option linter.unusedSimpArgs false
mutual
def drumlinelaw6_HopsSteps.l0 : Nat → Int → Int → List Int → Int → List (S60) → List (S37) → Int → Int → Int → Int → Int → Int → Int → Int → Int → Int → Int → Option (Bool)
 | 0, _, _, _, _, _, _, _, _, _, _, _, _, _, _, _, _, _ => none
 | k + 1, x8, x9, x10, x11, x378000, x378001, x378002, x378003, x378004, x378005, x378006, x378007, x378008, x378009, x378010, x378011, x378012 => if x11 < (x10.length : Int) then (if 0 ≤ x11 then (if (rd x10 x11) < 0 then (drumlinelaw6_HopsSteps.j1 k x8 x9 x10 x11 true x378000 x378001 x378002 x378003 x378004 x378005 x378006 x378007 x378008 x378009 x378010 x378011 x378012) else (if (rd x10 x11) ≥ (x378001.length : Int) then (drumlinelaw6_HopsSteps.j1 k x8 x9 x10 x11 true x378000 x378001 x378002 x378003 x378004 x378005 x378006 x378007 x378008 x378009 x378010 x378011 x378012) else ((hops_Next.f x378000 x378001 x378002 x378003 x378004 x378005 x378006 x378007 x378008 x378009 x378010 x378011 x378012 x8 x9).bind fun t384 => (drumlinelaw6_HopsSteps.j1 k x8 x9 x10 x11 (t384 != (rd x10 x11)) x378000 x378001 x378002 x378003 x378004 x378005 x378006 x378007 x378008 x378009 x378010 x378011 x378012)))) else (none)) else (some (x8 == x9))
def drumlinelaw6_HopsSteps.j1 : Nat → Int → Int → List Int → Int → Bool → List (S60) → List (S37) → Int → Int → Int → Int → Int → Int → Int → Int → Int → Int → Int → Option (Bool)
 | 0, _, _, _, _, _, _, _, _, _, _, _, _, _, _, _, _, _, _ => none
 | k + 1, x8, x9, x10, x11, x72, x378000, x378001, x378002, x378003, x378004, x378005, x378006, x378007, x378008, x378009, x378010, x378011, x378012 => if x72 = true then (some false) else (if 0 ≤ x11 then (if x11 < (x10.length : Int) then (if 0 ≤ (rd x10 x11) then (if (rd x10 x11) < (x378001.length : Int) then (if ((rd_T37 x378001 (rd x10 x11)).f0) = x8 then (drumlinelaw6_HopsSteps.j2 k x8 x9 x10 x11 false x378000 x378001 x378002 x378003 x378004 x378005 x378006 x378007 x378008 x378009 x378010 x378011 x378012 ((rd_T37 x378001 (rd x10 x11)).f0) ((rd_T37 x378001 (rd x10 x11)).f1) ((rd_T37 x378001 (rd x10 x11)).f2.f0) ((rd_T37 x378001 (rd x10 x11)).f2.f1) ((rd_T37 x378001 (rd x10 x11)).f3.f0) ((rd_T37 x378001 (rd x10 x11)).f3.f1)) else (drumlinelaw6_HopsSteps.j2 k x8 x9 x10 x11 (((rd_T37 x378001 (rd x10 x11)).f1) != x8) x378000 x378001 x378002 x378003 x378004 x378005 x378006 x378007 x378008 x378009 x378010 x378011 x378012 ((rd_T37 x378001 (rd x10 x11)).f0) ((rd_T37 x378001 (rd x10 x11)).f1) ((rd_T37 x378001 (rd x10 x11)).f2.f0) ((rd_T37 x378001 (rd x10 x11)).f2.f1) ((rd_T37 x378001 (rd x10 x11)).f3.f0) ((rd_T37 x378001 (rd x10 x11)).f3.f1))) else (none)) else (none)) else (none)) else (none))
def drumlinelaw6_HopsSteps.j2 : Nat → Int → Int → List Int → Int → Bool → List (S60) → List (S37) → Int → Int → Int → Int → Int → Int → Int → Int → Int → Int → Int → Int → Int → Int → Int → Int → Int → Option (Bool)
 | 0, _, _, _, _, _, _, _, _, _, _, _, _, _, _, _, _, _, _, _, _, _, _, _, _ => none
 | k + 1, x8, x9, x10, x11, x90, x378000, x378001, x378002, x378003, x378004, x378005, x378006, x378007, x378008, x378009, x378010, x378011, x378012, x389000, x389001, x389002, x389003, x389004, x389005 => if x90 = true then (some false) else ((hops_Dist.f k x378000 x378001 x378002 x378003 x378004 x378005 x378006 x378007 x378008 x378009 x378010 x378011 x378012 (wrap64 ((wrap64 (x389000 + x389001)) - x8)) x9).bind fun t389 => ((hops_Dist.f k x378000 x378001 x378002 x378003 x378004 x378005 x378006 x378007 x378008 x378009 x378010 x378011 x378012 x8 x9).bind fun t390 => (if t389 = (wrap64 (t390 - 1)) then (drumlinelaw6_HopsSteps.l0 k (wrap64 ((wrap64 (x389000 + x389001)) - x8)) x9 x10 (wrap64 (x11 + 1)) x378000 x378001 x378002 x378003 x378004 x378005 x378006 x378007 x378008 x378009 x378010 x378011 x378012) else (some false))))
end
def drumlinelaw6_HopsSteps.f (k : Nat) (a0 : Int) (a1 : Int) (a2 : Int) : Option (Bool) := (drumlinelaw6_alive.f k).bind fun t359 => (if t359 = true then ((drumlineref26_Made.f a0).bind fun bt360 => (if (bt360.1.length : Int) = 0 then (none) else ((hops_Way.f k bt360.1 bt360.2.1 bt360.2.2.1 bt360.2.2.2.1 bt360.2.2.2.2.1 bt360.2.2.2.2.2.1 bt360.2.2.2.2.2.2.1 bt360.2.2.2.2.2.2.2.1 bt360.2.2.2.2.2.2.2.2.1 bt360.2.2.2.2.2.2.2.2.2.1 bt360.2.2.2.2.2.2.2.2.2.2.1 bt360.2.2.2.2.2.2.2.2.2.2.2.1 bt360.2.2.2.2.2.2.2.2.2.2.2.2 (Int.tmod (wrap64 (a1)) (bt360.1.length : Int)) (Int.tmod (wrap64 (a2)) (bt360.1.length : Int))).bind fun t378 => ((hops_Dist.f k bt360.1 bt360.2.1 bt360.2.2.1 bt360.2.2.2.1 bt360.2.2.2.2.1 bt360.2.2.2.2.2.1 bt360.2.2.2.2.2.2.1 bt360.2.2.2.2.2.2.2.1 bt360.2.2.2.2.2.2.2.2.1 bt360.2.2.2.2.2.2.2.2.2.1 bt360.2.2.2.2.2.2.2.2.2.2.1 bt360.2.2.2.2.2.2.2.2.2.2.2.1 bt360.2.2.2.2.2.2.2.2.2.2.2.2 (Int.tmod (wrap64 (a1)) (bt360.1.length : Int)) (Int.tmod (wrap64 (a2)) (bt360.1.length : Int))).bind fun t381 => (if (t378.length : Int) = t381 then (drumlinelaw6_HopsSteps.l0 k (Int.tmod (wrap64 (a1)) (bt360.1.length : Int)) (Int.tmod (wrap64 (a2)) (bt360.1.length : Int)) t378 0 bt360.1 bt360.2.1 bt360.2.2.1 bt360.2.2.2.1 bt360.2.2.2.2.1 bt360.2.2.2.2.2.1 bt360.2.2.2.2.2.2.1 bt360.2.2.2.2.2.2.2.1 bt360.2.2.2.2.2.2.2.2.1 bt360.2.2.2.2.2.2.2.2.2.1 bt360.2.2.2.2.2.2.2.2.2.2.1 bt360.2.2.2.2.2.2.2.2.2.2.2.1 bt360.2.2.2.2.2.2.2.2.2.2.2.2) else (some false)))))) else (some false))
theorem drumlinelaw6_HopsSteps.mono_l : ∀ k, (∀ y0 y1 y2 y3 y4 y5 y6 y7 y8 y9 y10 y11 y12 y13 y14 y15 y16, LeO (drumlinelaw6_HopsSteps.l0 k y0 y1 y2 y3 y4 y5 y6 y7 y8 y9 y10 y11 y12 y13 y14 y15 y16) (drumlinelaw6_HopsSteps.l0 (k + 1) y0 y1 y2 y3 y4 y5 y6 y7 y8 y9 y10 y11 y12 y13 y14 y15 y16)) ∧ (∀ y0 y1 y2 y3 y4 y5 y6 y7 y8 y9 y10 y11 y12 y13 y14 y15 y16 y17, LeO (drumlinelaw6_HopsSteps.j1 k y0 y1 y2 y3 y4 y5 y6 y7 y8 y9 y10 y11 y12 y13 y14 y15 y16 y17) (drumlinelaw6_HopsSteps.j1 (k + 1) y0 y1 y2 y3 y4 y5 y6 y7 y8 y9 y10 y11 y12 y13 y14 y15 y16 y17)) ∧ (∀ y0 y1 y2 y3 y4 y5 y6 y7 y8 y9 y10 y11 y12 y13 y14 y15 y16 y17 y18 y19 y20 y21 y22 y23, LeO (drumlinelaw6_HopsSteps.j2 k y0 y1 y2 y3 y4 y5 y6 y7 y8 y9 y10 y11 y12 y13 y14 y15 y16 y17 y18 y19 y20 y21 y22 y23) (drumlinelaw6_HopsSteps.j2 (k + 1) y0 y1 y2 y3 y4 y5 y6 y7 y8 y9 y10 y11 y12 y13 y14 y15 y16 y17 y18 y19 y20 y21 y22 y23))
 | 0 => ⟨fun _ _ _ _ _ _ _ _ _ _ _ _ _ _ _ _ _ r h => by simp [drumlinelaw6_HopsSteps.l0] at h, fun _ _ _ _ _ _ _ _ _ _ _ _ _ _ _ _ _ _ r h => by simp [drumlinelaw6_HopsSteps.j1] at h, fun _ _ _ _ _ _ _ _ _ _ _ _ _ _ _ _ _ _ _ _ _ _ _ _ r h => by simp [drumlinelaw6_HopsSteps.j2] at h⟩
 | k + 1 => by
  obtain ⟨ih0, ih1, ih2⟩ := drumlinelaw6_HopsSteps.mono_l k
  refine ⟨?_, ?_, ?_⟩
  ·intro y0 y1 y2 y3 y4 y5 y6 y7 y8 y9 y10 y11 y12 y13 y14 y15 y16
   unfold drumlinelaw6_HopsSteps.l0
   repeat' first
   | (with_reducible exact ih0 _ _ _ _ _ _ _ _ _ _ _ _ _ _ _ _ _)
   | (with_reducible exact ih1 _ _ _ _ _ _ _ _ _ _ _ _ _ _ _ _ _ _)
   | (with_reducible exact ih2 _ _ _ _ _ _ _ _ _ _ _ _ _ _ _ _ _ _ _ _ _ _ _ _)
   | (with_reducible exact drumlinelaw6_alive.mono _)
   | (with_reducible exact hops_Dist.mono _ _ _ _ _ _ _ _ _ _ _ _ _ _ _ _)
   | (with_reducible exact hops_Way.mono _ _ _ _ _ _ _ _ _ _ _ _ _ _ _ _)
   | (with_reducible exact LeO.refl _)
   | (with_reducible exact LeO.none _)
   | (with_reducible refine LeO.ite ?_ ?_)
   | (with_reducible refine LeO.bind ?_ (fun _ => ?_))
   | exact ih0 _ _ _ _ _ _ _ _ _ _ _ _ _ _ _ _ _
   | exact ih1 _ _ _ _ _ _ _ _ _ _ _ _ _ _ _ _ _ _
   | exact ih2 _ _ _ _ _ _ _ _ _ _ _ _ _ _ _ _ _ _ _ _ _ _ _ _
   | exact drumlinelaw6_alive.mono _
   | exact hops_Dist.mono _ _ _ _ _ _ _ _ _ _ _ _ _ _ _ _
   | exact hops_Way.mono _ _ _ _ _ _ _ _ _ _ _ _ _ _ _ _
   | exact LeO.none _
   | refine LeO.ite ?_ ?_
   | refine LeO.bind ?_ (fun _ => ?_)
  ·intro y0 y1 y2 y3 y4 y5 y6 y7 y8 y9 y10 y11 y12 y13 y14 y15 y16 y17
   unfold drumlinelaw6_HopsSteps.j1
   repeat' first
   | (with_reducible exact ih0 _ _ _ _ _ _ _ _ _ _ _ _ _ _ _ _ _)
   | (with_reducible exact ih1 _ _ _ _ _ _ _ _ _ _ _ _ _ _ _ _ _ _)
   | (with_reducible exact ih2 _ _ _ _ _ _ _ _ _ _ _ _ _ _ _ _ _ _ _ _ _ _ _ _)
   | (with_reducible exact drumlinelaw6_alive.mono _)
   | (with_reducible exact hops_Dist.mono _ _ _ _ _ _ _ _ _ _ _ _ _ _ _ _)
   | (with_reducible exact hops_Way.mono _ _ _ _ _ _ _ _ _ _ _ _ _ _ _ _)
   | (with_reducible exact LeO.refl _)
   | (with_reducible exact LeO.none _)
   | (with_reducible refine LeO.ite ?_ ?_)
   | (with_reducible refine LeO.bind ?_ (fun _ => ?_))
   | exact ih0 _ _ _ _ _ _ _ _ _ _ _ _ _ _ _ _ _
   | exact ih1 _ _ _ _ _ _ _ _ _ _ _ _ _ _ _ _ _ _
   | exact ih2 _ _ _ _ _ _ _ _ _ _ _ _ _ _ _ _ _ _ _ _ _ _ _ _
   | exact drumlinelaw6_alive.mono _
   | exact hops_Dist.mono _ _ _ _ _ _ _ _ _ _ _ _ _ _ _ _
   | exact hops_Way.mono _ _ _ _ _ _ _ _ _ _ _ _ _ _ _ _
   | exact LeO.none _
   | refine LeO.ite ?_ ?_
   | refine LeO.bind ?_ (fun _ => ?_)
  ·intro y0 y1 y2 y3 y4 y5 y6 y7 y8 y9 y10 y11 y12 y13 y14 y15 y16 y17 y18 y19 y20 y21 y22 y23
   unfold drumlinelaw6_HopsSteps.j2
   repeat' first
   | (with_reducible exact ih0 _ _ _ _ _ _ _ _ _ _ _ _ _ _ _ _ _)
   | (with_reducible exact ih1 _ _ _ _ _ _ _ _ _ _ _ _ _ _ _ _ _ _)
   | (with_reducible exact ih2 _ _ _ _ _ _ _ _ _ _ _ _ _ _ _ _ _ _ _ _ _ _ _ _)
   | (with_reducible exact drumlinelaw6_alive.mono _)
   | (with_reducible exact hops_Dist.mono _ _ _ _ _ _ _ _ _ _ _ _ _ _ _ _)
   | (with_reducible exact hops_Way.mono _ _ _ _ _ _ _ _ _ _ _ _ _ _ _ _)
   | (with_reducible exact LeO.refl _)
   | (with_reducible exact LeO.none _)
   | (with_reducible refine LeO.ite ?_ ?_)
   | (with_reducible refine LeO.bind ?_ (fun _ => ?_))
   | exact ih0 _ _ _ _ _ _ _ _ _ _ _ _ _ _ _ _ _
   | exact ih1 _ _ _ _ _ _ _ _ _ _ _ _ _ _ _ _ _ _
   | exact ih2 _ _ _ _ _ _ _ _ _ _ _ _ _ _ _ _ _ _ _ _ _ _ _ _
   | exact drumlinelaw6_alive.mono _
   | exact hops_Dist.mono _ _ _ _ _ _ _ _ _ _ _ _ _ _ _ _
   | exact hops_Way.mono _ _ _ _ _ _ _ _ _ _ _ _ _ _ _ _
   | exact LeO.none _
   | refine LeO.ite ?_ ?_
   | refine LeO.bind ?_ (fun _ => ?_)
theorem drumlinelaw6_HopsSteps.mono : ∀ a0 a1 a2 k, LeO (drumlinelaw6_HopsSteps.f k a0 a1 a2) (drumlinelaw6_HopsSteps.f (k + 1) a0 a1 a2) := by
 intro a0 a1 a2 k
 obtain ⟨ih0, ih1, ih2⟩ := drumlinelaw6_HopsSteps.mono_l k
 unfold drumlinelaw6_HopsSteps.f
 repeat' first
   | (with_reducible exact ih0 _ _ _ _ _ _ _ _ _ _ _ _ _ _ _ _ _)
   | (with_reducible exact ih1 _ _ _ _ _ _ _ _ _ _ _ _ _ _ _ _ _ _)
   | (with_reducible exact ih2 _ _ _ _ _ _ _ _ _ _ _ _ _ _ _ _ _ _ _ _ _ _ _ _)
   | (with_reducible exact drumlinelaw6_alive.mono _)
   | (with_reducible exact hops_Dist.mono _ _ _ _ _ _ _ _ _ _ _ _ _ _ _ _)
   | (with_reducible exact hops_Way.mono _ _ _ _ _ _ _ _ _ _ _ _ _ _ _ _)
   | (with_reducible exact LeO.refl _)
   | (with_reducible exact LeO.none _)
   | (with_reducible refine LeO.ite ?_ ?_)
   | (with_reducible refine LeO.bind ?_ (fun _ => ?_))
   | exact ih0 _ _ _ _ _ _ _ _ _ _ _ _ _ _ _ _ _
   | exact ih1 _ _ _ _ _ _ _ _ _ _ _ _ _ _ _ _ _ _
   | exact ih2 _ _ _ _ _ _ _ _ _ _ _ _ _ _ _ _ _ _ _ _ _ _ _ _
   | exact drumlinelaw6_alive.mono _
   | exact hops_Dist.mono _ _ _ _ _ _ _ _ _ _ _ _ _ _ _ _
   | exact hops_Way.mono _ _ _ _ _ _ _ _ _ _ _ _ _ _ _ _
   | exact LeO.none _
   | refine LeO.ite ?_ ?_
   | refine LeO.bind ?_ (fun _ => ?_)
def drumlinelaw6_HopsSteps.T4 : Bool × List (List Nat × List Nat) := (true, [([], []), ([0], [0]), ([], []), ([2], [2]), ([3], [3]), ([1, 4], [1, 4]), ([], []), ([6], [6]), ([], []), ([8], [8]), ([9], [9]), ([7, 10], [7, 10]), ([5, 0, 1, 2, 3, 4, 5], [5]), ([11, 12, 0, 1, 2, 3, 4, 5, 6, 7, 8, 9, 10, 11, 12], [11])])
def drumlinelaw6_HopsSteps.B4 : List Nat := [0, 1, 0, 4, 12, 31, 0, 64, 0, 256, 768, 1984, 63, 8191]
theorem drumlinelaw6_HopsSteps.tab4 : rtab .any (opsOf Tryd.f5 4) = drumlinelaw6_HopsSteps.T4 := by kernel_rfl
theorem drumlinelaw6_HopsSteps.bits4 : waitsOk drumlinelaw6_HopsSteps.T4.2 drumlinelaw6_HopsSteps.B4 = true := by kernel_rfl
def drumlinelaw6_HopsSteps.T11 : Bool × List (List Nat × List Nat) := (true, [([], []), ([], []), ([0, 1], [0, 1]), ([2], [2]), ([3], [3]), ([4], [4]), ([5], [5]), ([5], [5]), ([6, 7, 5], [5, 6, 7]), ([8, 5], [5, 8]), ([5], [5]), ([10, 5], [5, 10]), ([11, 5], [5, 11]), ([9, 12, 5], [5, 9, 12]), ([5, 13], [5, 13]), ([14, 5], [14]), ([15], [15]), ([15], [15]), ([15], [15]), ([16, 17, 18, 15, 15], [15, 16, 17, 18]), ([15], [15]), ([15], [15]), ([20, 21, 15], [15, 20, 21]), ([22, 15], [15, 22]), ([19, 23, 15], [15, 19, 23]), ([15, 24], [15, 24])])
def drumlinelaw6_HopsSteps.B11 : List Nat := [0, 0, 3, 7, 15, 31, 63, 63, 255, 511, 63, 1087, 3135, 8191, 16383, 32767, 65535, 65535, 65535, 524287, 65535, 65535, 3211263, 7405567, 16777215, 33554431]
theorem drumlinelaw6_HopsSteps.tab11 : rtab .any (opsOf Tryd.f5 11) = drumlinelaw6_HopsSteps.T11 := by kernel_rfl
theorem drumlinelaw6_HopsSteps.bits11 : waitsOk drumlinelaw6_HopsSteps.T11.2 drumlinelaw6_HopsSteps.B11 = true := by kernel_rfl
def drumlinelaw6_HopsSteps.T13 : Bool × List (List Nat × List Nat) := (true, [([], []), ([0], [0]), ([], []), ([], []), ([2, 3], [2, 3]), ([4], [4]), ([1, 5], [1, 5]), ([6], [6]), ([], []), ([8, 7, 0, 1, 2, 3, 4, 5, 6, 7, 8], [7, 8])])
def drumlinelaw6_HopsSteps.B13 : List Nat := [0, 1, 0, 0, 12, 28, 63, 127, 0, 511]
theorem drumlinelaw6_HopsSteps.tab13 : rtab .any (opsOf Tryd.f5 13) = drumlinelaw6_HopsSteps.T13 := by kernel_rfl
theorem drumlinelaw6_HopsSteps.bits13 : waitsOk drumlinelaw6_HopsSteps.T13.2 drumlinelaw6_HopsSteps.B13 = true := by kernel_rfl
def drumlinelaw6_HopsSteps.T17 : Bool × List (List Nat × List Nat) := (true, [([], []), ([], []), ([], []), ([0, 1, 2], [0, 1, 2]), ([], []), ([], []), ([], []), ([4, 5, 6, 3], [4, 5, 6]), ([7], [7]), ([3, 8], [3, 8])])
def drumlinelaw6_HopsSteps.B17 : List Nat := [0, 0, 0, 7, 0, 0, 0, 127, 255, 511]
theorem drumlinelaw6_HopsSteps.tab17 : rtab .any (opsOf Tryd.f5 17) = drumlinelaw6_HopsSteps.T17 := by kernel_rfl
theorem drumlinelaw6_HopsSteps.bits17 : waitsOk drumlinelaw6_HopsSteps.T17.2 drumlinelaw6_HopsSteps.B17 = true := by kernel_rfl
set_option maxHeartbeats 8000000 in
set_option maxRecDepth 100000 in
theorem drumlinelaw6_HopsSteps.calls (k : Nat) (a0 : Int) (a1 : Int) (a2 : Int) (r : Bool) (w : World) (h : drumlinelaw6_HopsSteps.f k a0 a1 a2 = some r) :
  Calls Tryd.prog 5 #[.int .i64 a0, .int .u8 a1, .int .u8 a2] w fun e w' => e = .returned (.bool r) ∧ Below w.heap.size w w' := by
 have hu25 := Tryd.underlying25
 have hu37 := Tryd.underlying37
 have HB := Aside0.mk (Below.refl w.heap.size w)
 have H : ((drumlinelaw6_alive.f k).bind fun t359 => (if t359 = true then ((drumlineref26_Made.f a0).bind fun bt360 => (if (bt360.1.length : Int) = 0 then (none) else ((hops_Way.f k bt360.1 bt360.2.1 bt360.2.2.1 bt360.2.2.2.1 bt360.2.2.2.2.1 bt360.2.2.2.2.2.1 bt360.2.2.2.2.2.2.1 bt360.2.2.2.2.2.2.2.1 bt360.2.2.2.2.2.2.2.2.1 bt360.2.2.2.2.2.2.2.2.2.1 bt360.2.2.2.2.2.2.2.2.2.2.1 bt360.2.2.2.2.2.2.2.2.2.2.2.1 bt360.2.2.2.2.2.2.2.2.2.2.2.2 (Int.tmod (wrap64 (a1)) (bt360.1.length : Int)) (Int.tmod (wrap64 (a2)) (bt360.1.length : Int))).bind fun t378 => ((hops_Dist.f k bt360.1 bt360.2.1 bt360.2.2.1 bt360.2.2.2.1 bt360.2.2.2.2.1 bt360.2.2.2.2.2.1 bt360.2.2.2.2.2.2.1 bt360.2.2.2.2.2.2.2.1 bt360.2.2.2.2.2.2.2.2.1 bt360.2.2.2.2.2.2.2.2.2.1 bt360.2.2.2.2.2.2.2.2.2.2.1 bt360.2.2.2.2.2.2.2.2.2.2.2.1 bt360.2.2.2.2.2.2.2.2.2.2.2.2 (Int.tmod (wrap64 (a1)) (bt360.1.length : Int)) (Int.tmod (wrap64 (a2)) (bt360.1.length : Int))).bind fun t381 => (if (t378.length : Int) = t381 then (drumlinelaw6_HopsSteps.l0 k (Int.tmod (wrap64 (a1)) (bt360.1.length : Int)) (Int.tmod (wrap64 (a2)) (bt360.1.length : Int)) t378 0 bt360.1 bt360.2.1 bt360.2.2.1 bt360.2.2.2.1 bt360.2.2.2.2.1 bt360.2.2.2.2.2.1 bt360.2.2.2.2.2.2.1 bt360.2.2.2.2.2.2.2.1 bt360.2.2.2.2.2.2.2.2.1 bt360.2.2.2.2.2.2.2.2.2.1 bt360.2.2.2.2.2.2.2.2.2.2.1 bt360.2.2.2.2.2.2.2.2.2.2.2.1 bt360.2.2.2.2.2.2.2.2.2.2.2.2) else (some false)))))) else (some false))) = some r := h
 clear h
 replace H := Option.bind_eq_some_iff.mp H
 obtain ⟨t359, A40, H⟩ := H
 replace H : (if t359 = true then ((drumlineref26_Made.f a0).bind fun bt360 => (if (bt360.1.length : Int) = 0 then (none) else ((hops_Way.f k bt360.1 bt360.2.1 bt360.2.2.1 bt360.2.2.2.1 bt360.2.2.2.2.1 bt360.2.2.2.2.2.1 bt360.2.2.2.2.2.2.1 bt360.2.2.2.2.2.2.2.1 bt360.2.2.2.2.2.2.2.2.1 bt360.2.2.2.2.2.2.2.2.2.1 bt360.2.2.2.2.2.2.2.2.2.2.1 bt360.2.2.2.2.2.2.2.2.2.2.2.1 bt360.2.2.2.2.2.2.2.2.2.2.2.2 (Int.tmod (wrap64 (a1)) (bt360.1.length : Int)) (Int.tmod (wrap64 (a2)) (bt360.1.length : Int))).bind fun t378 => ((hops_Dist.f k bt360.1 bt360.2.1 bt360.2.2.1 bt360.2.2.2.1 bt360.2.2.2.2.1 bt360.2.2.2.2.2.1 bt360.2.2.2.2.2.2.1 bt360.2.2.2.2.2.2.2.1 bt360.2.2.2.2.2.2.2.2.1 bt360.2.2.2.2.2.2.2.2.2.1 bt360.2.2.2.2.2.2.2.2.2.2.1 bt360.2.2.2.2.2.2.2.2.2.2.2.1 bt360.2.2.2.2.2.2.2.2.2.2.2.2 (Int.tmod (wrap64 (a1)) (bt360.1.length : Int)) (Int.tmod (wrap64 (a2)) (bt360.1.length : Int))).bind fun t381 => (if (t378.length : Int) = t381 then (drumlinelaw6_HopsSteps.l0 k (Int.tmod (wrap64 (a1)) (bt360.1.length : Int)) (Int.tmod (wrap64 (a2)) (bt360.1.length : Int)) t378 0 bt360.1 bt360.2.1 bt360.2.2.1 bt360.2.2.2.1 bt360.2.2.2.2.1 bt360.2.2.2.2.2.1 bt360.2.2.2.2.2.2.1 bt360.2.2.2.2.2.2.2.1 bt360.2.2.2.2.2.2.2.2.1 bt360.2.2.2.2.2.2.2.2.2.1 bt360.2.2.2.2.2.2.2.2.2.2.1 bt360.2.2.2.2.2.2.2.2.2.2.2.1 bt360.2.2.2.2.2.2.2.2.2.2.2.2) else (some false)))))) else (some false)) = some r := H
 have A4 := Aside0.mk A40
 clear A40
 by_cases c5 : t359 = true
 ·subst c5
  have H1 : ((drumlineref26_Made.f a0).bind fun bt360 => (if (bt360.1.length : Int) = 0 then (none) else ((hops_Way.f k bt360.1 bt360.2.1 bt360.2.2.1 bt360.2.2.2.1 bt360.2.2.2.2.1 bt360.2.2.2.2.2.1 bt360.2.2.2.2.2.2.1 bt360.2.2.2.2.2.2.2.1 bt360.2.2.2.2.2.2.2.2.1 bt360.2.2.2.2.2.2.2.2.2.1 bt360.2.2.2.2.2.2.2.2.2.2.1 bt360.2.2.2.2.2.2.2.2.2.2.2.1 bt360.2.2.2.2.2.2.2.2.2.2.2.2 (Int.tmod (wrap64 (a1)) (bt360.1.length : Int)) (Int.tmod (wrap64 (a2)) (bt360.1.length : Int))).bind fun t378 => ((hops_Dist.f k bt360.1 bt360.2.1 bt360.2.2.1 bt360.2.2.2.1 bt360.2.2.2.2.1 bt360.2.2.2.2.2.1 bt360.2.2.2.2.2.2.1 bt360.2.2.2.2.2.2.2.1 bt360.2.2.2.2.2.2.2.2.1 bt360.2.2.2.2.2.2.2.2.2.1 bt360.2.2.2.2.2.2.2.2.2.2.1 bt360.2.2.2.2.2.2.2.2.2.2.2.1 bt360.2.2.2.2.2.2.2.2.2.2.2.2 (Int.tmod (wrap64 (a1)) (bt360.1.length : Int)) (Int.tmod (wrap64 (a2)) (bt360.1.length : Int))).bind fun t381 => (if (t378.length : Int) = t381 then (drumlinelaw6_HopsSteps.l0 k (Int.tmod (wrap64 (a1)) (bt360.1.length : Int)) (Int.tmod (wrap64 (a2)) (bt360.1.length : Int)) t378 0 bt360.1 bt360.2.1 bt360.2.2.1 bt360.2.2.2.1 bt360.2.2.2.2.1 bt360.2.2.2.2.2.1 bt360.2.2.2.2.2.2.1 bt360.2.2.2.2.2.2.2.1 bt360.2.2.2.2.2.2.2.2.1 bt360.2.2.2.2.2.2.2.2.2.1 bt360.2.2.2.2.2.2.2.2.2.2.1 bt360.2.2.2.2.2.2.2.2.2.2.2.1 bt360.2.2.2.2.2.2.2.2.2.2.2.2) else (some false)))))) = some r := by rw [if_pos rfl] at H; exact H
  clear H
  have H := H1
  clear H1
  replace H := Option.bind_eq_some_iff.mp H
  obtain ⟨⟨t360, t363, t366, t367, t368, t369, t370, t371, t372, t373, t374, t375, t376⟩, A60, H⟩ := H
  replace H : (if (t360.length : Int) = 0 then (none) else ((hops_Way.f k t360 t363 t366 t367 t368 t369 t370 t371 t372 t373 t374 t375 t376 (Int.tmod (wrap64 (a1)) (t360.length : Int)) (Int.tmod (wrap64 (a2)) (t360.length : Int))).bind fun t378 => ((hops_Dist.f k t360 t363 t366 t367 t368 t369 t370 t371 t372 t373 t374 t375 t376 (Int.tmod (wrap64 (a1)) (t360.length : Int)) (Int.tmod (wrap64 (a2)) (t360.length : Int))).bind fun t381 => (if (t378.length : Int) = t381 then (drumlinelaw6_HopsSteps.l0 k (Int.tmod (wrap64 (a1)) (t360.length : Int)) (Int.tmod (wrap64 (a2)) (t360.length : Int)) t378 0 t360 t363 t366 t367 t368 t369 t370 t371 t372 t373 t374 t375 t376) else (some false))))) = some r := H
  have A6 := Aside0.mk A60
  clear A60
  by_cases c7 : (t360.length : Int) = 0
  ·rw [if_pos c7] at H
   exact absurd H (by simp)
  ·rw [if_neg c7] at H
   have c7b0 : ((t360.length : Int) == 0) = false := beq_eq_false_iff_ne.mpr c7
   have c7b1 : ((t360.length : Int) != 0) = true := bne_iff_ne.mpr c7
   have c7b2 : ¬ (t360 = []) := fun h_ => c7 (by rw [h_]; rfl)
   replace H := Option.bind_eq_some_iff.mp H
   obtain ⟨t378, A80, H⟩ := H
   replace H : ((hops_Dist.f k t360 t363 t366 t367 t368 t369 t370 t371 t372 t373 t374 t375 t376 (Int.tmod (wrap64 (a1)) (t360.length : Int)) (Int.tmod (wrap64 (a2)) (t360.length : Int))).bind fun t381 => (if (t378.length : Int) = t381 then (drumlinelaw6_HopsSteps.l0 k (Int.tmod (wrap64 (a1)) (t360.length : Int)) (Int.tmod (wrap64 (a2)) (t360.length : Int)) t378 0 t360 t363 t366 t367 t368 t369 t370 t371 t372 t373 t374 t375 t376) else (some false))) = some r := H
   have A8 := Aside0.mk A80
   clear A80
   replace H := Option.bind_eq_some_iff.mp H
   obtain ⟨t381, A90, H⟩ := H
   replace H : (if (t378.length : Int) = t381 then (drumlinelaw6_HopsSteps.l0 k (Int.tmod (wrap64 (a1)) (t360.length : Int)) (Int.tmod (wrap64 (a2)) (t360.length : Int)) t378 0 t360 t363 t366 t367 t368 t369 t370 t371 t372 t373 t374 t375 t376) else (some false)) = some r := H
   have A9 := Aside0.mk A90
   clear A90
   by_cases c10 : (t378.length : Int) = t381
   ·rw [if_pos c10] at H
    have c10b0 : ((t378.length : Int) == t381) = true := beq_iff_eq.mpr c10
    have c10b1 : ((t378.length : Int) != t381) = false := bne_eq_false_iff_eq.mpr c10
    clear c10
    have H' := Aside0.mk H
    clear H
    go_enter Tryd.func5, Tryd.ntmps5
    try go_wp2_with (first | ((with_reducible refine gate_callee (f := 10) rfl ?_); refine goesL_ (some 14) rfl rfl Tryd.func10 (by kernel_rfl) rfl #[] rfl (by (try simp only [List.map_toArray, List.map_cons, List.map_nil]); first | done | rfl | (simp only [List.length_drop, List.length_take]; rfl)) ?_; (with_reducible refine (drumlinelaw6_alive.calls k  true _ A4.out).mono ?_); rintro e w11 ⟨rfl, hb⟩; refine ⟨_, rfl, ?_⟩; have n0_ := Aside0.mk (below_step (by repeat (first | (with_reducible first | exact HB.out | apply below_alloc | apply pw_below_drewN | apply below_drew1) | exact HB.out)) hb); clear HB; have HB := n0_; clear n0_; (try clear hb); (try clear hb2); (try clear hk); (try clear hi)) | ((with_reducible refine gate_callee (f := 20) rfl ?_); refine goesL_ (some 17) rfl rfl Tryd.func20 (by kernel_rfl) rfl #[.int .i64 a0] rfl (by (try simp only [List.map_toArray, List.map_cons, List.map_nil]); first | done | rfl | (simp only [List.length_drop, List.length_take]; rfl)) ?_; (with_reducible refine (drumlineref26_Made.calls a0 t360 t363 t366 t367 t368 t369 t370 t371 t372 t373 t374 t375 t376 _ A6.out).mono ?_); rintro e w12 ⟨v361, v364, rfl, ho0, ho1, hb⟩; refine ⟨_, rfl, ?_⟩; have n0_ := Aside0.mk (Kd.R_lower ho0 (below_size (by repeat (first | (with_reducible first | exact HB.out | apply below_alloc | apply pw_below_drewN | apply below_drew1) | exact HB.out)))); have n1_ := Aside0.mk (Kd.R_lower ho1 (below_size (by repeat (first | (with_reducible first | exact HB.out | apply below_alloc | apply pw_below_drewN | apply below_drew1) | exact HB.out)))); have n2_ := Aside0.mk (below_step (by repeat (first | (with_reducible first | exact HB.out | apply below_alloc | apply pw_below_drewN | apply below_drew1) | exact HB.out)) hb); clear HB; have HO362 := n0_; have HO365 := n1_; have HB := n2_; clear n0_ n1_ n2_; (try clear hb); (try clear hb2); (try clear hk); (try clear hi); (try clear ho0); (try clear ho1)) | ((with_reducible refine gate_dst (N := 7) rfl ?_); (try (refine gate_guard (by rfl) ?_; dsimp only)); refine box_event ?hg (N := 7) ?hd (cs := #[.slice none 0 0, .slice none 0 0, .int .i64 0, .int .i64 0, .int .i64 0, .int .i64 0, .int .i64 0, .int .i64 0, .int .i64 0, .int .i64 0, .int .i64 0, .int .i64 0, .int .i64 0]) (t := 25) ?hr ?_; (case hd => rfl); (case hg => rfl); (case hr => first | (go_simp; done) | (go_simp; rfl)); intro gb377 hg w13 hbox hb; have n0_ := Aside0.mk (Kd.R_below (by (with_reducible repeat (first | apply Kd.R_alloc | apply Kd.R_drewN | apply Kd.R_drew)); exact HO362.out) hb); have n1_ := Aside0.mk (Kd.R_below (by (with_reducible repeat (first | apply Kd.R_alloc | apply Kd.R_drewN | apply Kd.R_drew)); exact HO365.out) hb); have n2_ := Aside0.mk (below_step (by repeat (first | (with_reducible first | exact HB.out | apply below_alloc | apply pw_below_drewN | apply below_drew1) | exact HB.out)) hb); have n3_ := Aside0.mk (hbox); have n4_ := Aside0.mk ((by rw [hg]; exact (below_size (by repeat (first | (with_reducible first | exact HB.out | apply below_alloc | apply pw_below_drewN | apply below_drew1) | exact HB.out))) : w.heap.size ≤ gb377)); have n5_ := Aside0.mk ((by rw [hg]; exact (below_size (by repeat (first | (with_reducible first | exact HB.out | apply below_alloc | apply pw_below_drewN | apply below_drew1) | exact HB.out))) : w.heap.size ≤ gb377)); clear HO362; clear HO365; clear HB; have HO362 := n0_; have HO365 := n1_; have HB := n2_; have BK377 := n3_; have GW377 := n4_; have GE377 := n5_; clear n0_ n1_ n2_ n3_ n4_ n5_; clear hb hbox hg; obtain ⟨Ao14, co14, eo14⟩ := Kd.R_slice HO362.out; subst eo14; obtain ⟨hcz15_0, hcz15_1, hcz15_2, hcz15_3, hcz15_4, hcz15_5, hcz15_6, hcz15_7, hcz15_8, hcz15_9, hcz15_10, hcz15_11, hcz15_12⟩ := cellsK13 BK377.out; obtain ⟨hfz15_0, hfz15_1, hfz15_2, hfz15_3, hfz15_4, hfz15_5, hfz15_6, hfz15_7, hfz15_8, hfz15_9, hfz15_10, hfz15_11, hfz15_12⟩ := frozK13 BK377.out; obtain ⟨Ao16, co16, eo16⟩ := Kd.R_slice HO365.out; subst eo16))
    have n0_ : Aside0 (Kd.R k60 60 (((((((((((((w13.setCell ⟨gb377, 0, none⟩ (.slice Ao14 t360.length co14)).setCell ⟨gb377, 1, none⟩ (.slice Ao16 t363.length co16)).setCell ⟨gb377, 2, none⟩ (.int .i64 t366)).setCell ⟨gb377, 3, none⟩ (.int .i64 t367)).setCell ⟨gb377, 4, none⟩ (.int .i64 t368)).setCell ⟨gb377, 5, none⟩ (.int .i64 t369)).setCell ⟨gb377, 6, none⟩ (.int .i64 t370)).setCell ⟨gb377, 7, none⟩ (.int .i64 t371)).setCell ⟨gb377, 8, none⟩ (.int .i64 t372)).setCell ⟨gb377, 9, none⟩ (.int .i64 t373)).setCell ⟨gb377, 10, none⟩ (.int .i64 t374)).setCell ⟨gb377, 11, none⟩ (.int .i64 t375)).setCell ⟨gb377, 12, none⟩ (.int .i64 t376)) w.heap.size (fun _ => True) (.slice Ao14 t360.length co14) t360) := ⟨by (with_reducible repeat (first | apply Kd.R_alloc | apply Kd.R_drewN | apply Kd.R_drew)); exact Kd.R_mono (Kd.R_far (p := ⟨gb377, 12, none⟩) (Kd.R_far (p := ⟨gb377, 11, none⟩) (Kd.R_far (p := ⟨gb377, 10, none⟩) (Kd.R_far (p := ⟨gb377, 9, none⟩) (Kd.R_far (p := ⟨gb377, 8, none⟩) (Kd.R_far (p := ⟨gb377, 7, none⟩) (Kd.R_far (p := ⟨gb377, 6, none⟩) (Kd.R_far (p := ⟨gb377, 5, none⟩) (Kd.R_far (p := ⟨gb377, 4, none⟩) (Kd.R_far (p := ⟨gb377, 3, none⟩) (Kd.R_far (p := ⟨gb377, 2, none⟩) (Kd.R_far (p := ⟨gb377, 1, none⟩) (Kd.R_far (p := ⟨gb377, 0, none⟩) (Kd.R_types HO362.out BK377.out (by decide)) (fun _ hk => hk.2) (.slice Ao14 t360.length co14)) (fun _ hk => hk.2) (.slice Ao16 t363.length co16)) (fun _ hk => hk.2) (.int .i64 t366)) (fun _ hk => hk.2) (.int .i64 t367)) (fun _ hk => hk.2) (.int .i64 t368)) (fun _ hk => hk.2) (.int .i64 t369)) (fun _ hk => hk.2) (.int .i64 t370)) (fun _ hk => hk.2) (.int .i64 t371)) (fun _ hk => hk.2) (.int .i64 t372)) (fun _ hk => hk.2) (.int .i64 t373)) (fun _ hk => hk.2) (.int .i64 t374)) (fun _ hk => hk.2) (.int .i64 t375)) (fun _ hk => hk.2) (.int .i64 t376)) (fun _ hk => trivial)⟩
    have n1_ : Aside0 (Kd.R k37 37 (((((((((((((w13.setCell ⟨gb377, 0, none⟩ (.slice Ao14 t360.length co14)).setCell ⟨gb377, 1, none⟩ (.slice Ao16 t363.length co16)).setCell ⟨gb377, 2, none⟩ (.int .i64 t366)).setCell ⟨gb377, 3, none⟩ (.int .i64 t367)).setCell ⟨gb377, 4, none⟩ (.int .i64 t368)).setCell ⟨gb377, 5, none⟩ (.int .i64 t369)).setCell ⟨gb377, 6, none⟩ (.int .i64 t370)).setCell ⟨gb377, 7, none⟩ (.int .i64 t371)).setCell ⟨gb377, 8, none⟩ (.int .i64 t372)).setCell ⟨gb377, 9, none⟩ (.int .i64 t373)).setCell ⟨gb377, 10, none⟩ (.int .i64 t374)).setCell ⟨gb377, 11, none⟩ (.int .i64 t375)).setCell ⟨gb377, 12, none⟩ (.int .i64 t376)) w.heap.size (fun _ => True) (.slice Ao16 t363.length co16) t363) := ⟨by (with_reducible repeat (first | apply Kd.R_alloc | apply Kd.R_drewN | apply Kd.R_drew)); exact Kd.R_mono (Kd.R_far (p := ⟨gb377, 12, none⟩) (Kd.R_far (p := ⟨gb377, 11, none⟩) (Kd.R_far (p := ⟨gb377, 10, none⟩) (Kd.R_far (p := ⟨gb377, 9, none⟩) (Kd.R_far (p := ⟨gb377, 8, none⟩) (Kd.R_far (p := ⟨gb377, 7, none⟩) (Kd.R_far (p := ⟨gb377, 6, none⟩) (Kd.R_far (p := ⟨gb377, 5, none⟩) (Kd.R_far (p := ⟨gb377, 4, none⟩) (Kd.R_far (p := ⟨gb377, 3, none⟩) (Kd.R_far (p := ⟨gb377, 2, none⟩) (Kd.R_far (p := ⟨gb377, 1, none⟩) (Kd.R_far (p := ⟨gb377, 0, none⟩) (Kd.R_types HO365.out BK377.out (by decide)) (fun _ hk => hk.2) (.slice Ao14 t360.length co14)) (fun _ hk => hk.2) (.slice Ao16 t363.length co16)) (fun _ hk => hk.2) (.int .i64 t366)) (fun _ hk => hk.2) (.int .i64 t367)) (fun _ hk => hk.2) (.int .i64 t368)) (fun _ hk => hk.2) (.int .i64 t369)) (fun _ hk => hk.2) (.int .i64 t370)) (fun _ hk => hk.2) (.int .i64 t371)) (fun _ hk => hk.2) (.int .i64 t372)) (fun _ hk => hk.2) (.int .i64 t373)) (fun _ hk => hk.2) (.int .i64 t374)) (fun _ hk => hk.2) (.int .i64 t375)) (fun _ hk => hk.2) (.int .i64 t376)) (fun _ hk => trivial)⟩
    have n2_ : Aside0 ((((((((((((((w13.setCell ⟨gb377, 0, none⟩ (.slice Ao14 t360.length co14)).setCell ⟨gb377, 1, none⟩ (.slice Ao16 t363.length co16)).setCell ⟨gb377, 2, none⟩ (.int .i64 t366)).setCell ⟨gb377, 3, none⟩ (.int .i64 t367)).setCell ⟨gb377, 4, none⟩ (.int .i64 t368)).setCell ⟨gb377, 5, none⟩ (.int .i64 t369)).setCell ⟨gb377, 6, none⟩ (.int .i64 t370)).setCell ⟨gb377, 7, none⟩ (.int .i64 t371)).setCell ⟨gb377, 8, none⟩ (.int .i64 t372)).setCell ⟨gb377, 9, none⟩ (.int .i64 t373)).setCell ⟨gb377, 10, none⟩ (.int .i64 t374)).setCell ⟨gb377, 11, none⟩ (.int .i64 t375)).setCell ⟨gb377, 12, none⟩ (.int .i64 t376)).heap[gb377]? = some (.cells #[.slice Ao14 t360.length co14, .slice Ao16 t363.length co16, .int .i64 t366, .int .i64 t367, .int .i64 t368, .int .i64 t369, .int .i64 t370, .int .i64 t371, .int .i64 t372, .int .i64 t373, .int .i64 t374, .int .i64 t375, .int .i64 t376] 25 (0, 0))) := ⟨by (with_reducible repeat (first | refine blk_drewN ?_ _ | refine blk_drew ?_ | refine blk_alloc ?_ _)); refine blk_put (cs := #[.slice Ao14 t360.length co14, .slice Ao16 t363.length co16, .int .i64 t366, .int .i64 t367, .int .i64 t368, .int .i64 t369, .int .i64 t370, .int .i64 t371, .int .i64 t372, .int .i64 t373, .int .i64 t374, .int .i64 t375, .int .i64 0]) ?_ 12 _ rfl; (with_reducible repeat (first | refine blk_drewN ?_ _ | refine blk_drew ?_ | refine blk_alloc ?_ _)); refine blk_put (cs := #[.slice Ao14 t360.length co14, .slice Ao16 t363.length co16, .int .i64 t366, .int .i64 t367, .int .i64 t368, .int .i64 t369, .int .i64 t370, .int .i64 t371, .int .i64 t372, .int .i64 t373, .int .i64 t374, .int .i64 0, .int .i64 0]) ?_ 11 _ rfl; (with_reducible repeat (first | refine blk_drewN ?_ _ | refine blk_drew ?_ | refine blk_alloc ?_ _)); refine blk_put (cs := #[.slice Ao14 t360.length co14, .slice Ao16 t363.length co16, .int .i64 t366, .int .i64 t367, .int .i64 t368, .int .i64 t369, .int .i64 t370, .int .i64 t371, .int .i64 t372, .int .i64 t373, .int .i64 0, .int .i64 0, .int .i64 0]) ?_ 10 _ rfl; (with_reducible repeat (first | refine blk_drewN ?_ _ | refine blk_drew ?_ | refine blk_alloc ?_ _)); refine blk_put (cs := #[.slice Ao14 t360.length co14, .slice Ao16 t363.length co16, .int .i64 t366, .int .i64 t367, .int .i64 t368, .int .i64 t369, .int .i64 t370, .int .i64 t371, .int .i64 t372, .int .i64 0, .int .i64 0, .int .i64 0, .int .i64 0]) ?_ 9 _ rfl; (with_reducible repeat (first | refine blk_drewN ?_ _ | refine blk_drew ?_ | refine blk_alloc ?_ _)); refine blk_put (cs := #[.slice Ao14 t360.length co14, .slice Ao16 t363.length co16, .int .i64 t366, .int .i64 t367, .int .i64 t368, .int .i64 t369, .int .i64 t370, .int .i64 t371, .int .i64 0, .int .i64 0, .int .i64 0, .int .i64 0, .int .i64 0]) ?_ 8 _ rfl; (with_reducible repeat (first | refine blk_drewN ?_ _ | refine blk_drew ?_ | refine blk_alloc ?_ _)); refine blk_put (cs := #[.slice Ao14 t360.length co14, .slice Ao16 t363.length co16, .int .i64 t366, .int .i64 t367, .int .i64 t368, .int .i64 t369, .int .i64 t370, .int .i64 0, .int .i64 0, .int .i64 0, .int .i64 0, .int .i64 0, .int .i64 0]) ?_ 7 _ rfl; (with_reducible repeat (first | refine blk_drewN ?_ _ | refine blk_drew ?_ | refine blk_alloc ?_ _)); refine blk_put (cs := #[.slice Ao14 t360.length co14, .slice Ao16 t363.length co16, .int .i64 t366, .int .i64 t367, .int .i64 t368, .int .i64 t369, .int .i64 0, .int .i64 0, .int .i64 0, .int .i64 0, .int .i64 0, .int .i64 0, .int .i64 0]) ?_ 6 _ rfl; (with_reducible repeat (first | refine blk_drewN ?_ _ | refine blk_drew ?_ | refine blk_alloc ?_ _)); refine blk_put (cs := #[.slice Ao14 t360.length co14, .slice Ao16 t363.length co16, .int .i64 t366, .int .i64 t367, .int .i64 t368, .int .i64 0, .int .i64 0, .int .i64 0, .int .i64 0, .int .i64 0, .int .i64 0, .int .i64 0, .int .i64 0]) ?_ 5 _ rfl; (with_reducible repeat (first | refine blk_drewN ?_ _ | refine blk_drew ?_ | refine blk_alloc ?_ _)); refine blk_put (cs := #[.slice Ao14 t360.length co14, .slice Ao16 t363.length co16, .int .i64 t366, .int .i64 t367, .int .i64 0, .int .i64 0, .int .i64 0, .int .i64 0, .int .i64 0, .int .i64 0, .int .i64 0, .int .i64 0, .int .i64 0]) ?_ 4 _ rfl; (with_reducible repeat (first | refine blk_drewN ?_ _ | refine blk_drew ?_ | refine blk_alloc ?_ _)); refine blk_put (cs := #[.slice Ao14 t360.length co14, .slice Ao16 t363.length co16, .int .i64 t366, .int .i64 0, .int .i64 0, .int .i64 0, .int .i64 0, .int .i64 0, .int .i64 0, .int .i64 0, .int .i64 0, .int .i64 0, .int .i64 0]) ?_ 3 _ rfl; (with_reducible repeat (first | refine blk_drewN ?_ _ | refine blk_drew ?_ | refine blk_alloc ?_ _)); refine blk_put (cs := #[.slice Ao14 t360.length co14, .slice Ao16 t363.length co16, .int .i64 0, .int .i64 0, .int .i64 0, .int .i64 0, .int .i64 0, .int .i64 0, .int .i64 0, .int .i64 0, .int .i64 0, .int .i64 0, .int .i64 0]) ?_ 2 _ rfl; (with_reducible repeat (first | refine blk_drewN ?_ _ | refine blk_drew ?_ | refine blk_alloc ?_ _)); refine blk_put (cs := #[.slice Ao14 t360.length co14, .slice none 0 0, .int .i64 0, .int .i64 0, .int .i64 0, .int .i64 0, .int .i64 0, .int .i64 0, .int .i64 0, .int .i64 0, .int .i64 0, .int .i64 0, .int .i64 0]) ?_ 1 _ rfl; (with_reducible repeat (first | refine blk_drewN ?_ _ | refine blk_drew ?_ | refine blk_alloc ?_ _)); refine blk_put (cs := #[.slice none 0 0, .slice none 0 0, .int .i64 0, .int .i64 0, .int .i64 0, .int .i64 0, .int .i64 0, .int .i64 0, .int .i64 0, .int .i64 0, .int .i64 0, .int .i64 0, .int .i64 0]) ?_ 0 _ rfl; (with_reducible repeat (first | refine blk_drewN ?_ _ | refine blk_drew ?_ | refine blk_alloc ?_ _)); exact BK377.out⟩
    have n3_ : Aside0 (Below w.heap.size w (((((((((((((w13.setCell ⟨gb377, 0, none⟩ (.slice Ao14 t360.length co14)).setCell ⟨gb377, 1, none⟩ (.slice Ao16 t363.length co16)).setCell ⟨gb377, 2, none⟩ (.int .i64 t366)).setCell ⟨gb377, 3, none⟩ (.int .i64 t367)).setCell ⟨gb377, 4, none⟩ (.int .i64 t368)).setCell ⟨gb377, 5, none⟩ (.int .i64 t369)).setCell ⟨gb377, 6, none⟩ (.int .i64 t370)).setCell ⟨gb377, 7, none⟩ (.int .i64 t371)).setCell ⟨gb377, 8, none⟩ (.int .i64 t372)).setCell ⟨gb377, 9, none⟩ (.int .i64 t373)).setCell ⟨gb377, 10, none⟩ (.int .i64 t374)).setCell ⟨gb377, 11, none⟩ (.int .i64 t375)).setCell ⟨gb377, 12, none⟩ (.int .i64 t376))) := ⟨by repeat (first | (with_reducible first | exact HB.out | apply below_alloc | apply pw_below_drewN | apply below_drew1 | refine below_set ?_ GE377.out) | exact HB.out)⟩
    (try clear HO362)
    (try clear HO365)
    (try clear BK377)
    (try clear HB)
    generalize (((((((((((((w13.setCell ⟨gb377, 0, none⟩ (.slice Ao14 t360.length co14)).setCell ⟨gb377, 1, none⟩ (.slice Ao16 t363.length co16)).setCell ⟨gb377, 2, none⟩ (.int .i64 t366)).setCell ⟨gb377, 3, none⟩ (.int .i64 t367)).setCell ⟨gb377, 4, none⟩ (.int .i64 t368)).setCell ⟨gb377, 5, none⟩ (.int .i64 t369)).setCell ⟨gb377, 6, none⟩ (.int .i64 t370)).setCell ⟨gb377, 7, none⟩ (.int .i64 t371)).setCell ⟨gb377, 8, none⟩ (.int .i64 t372)).setCell ⟨gb377, 9, none⟩ (.int .i64 t373)).setCell ⟨gb377, 10, none⟩ (.int .i64 t374)).setCell ⟨gb377, 11, none⟩ (.int .i64 t375)).setCell ⟨gb377, 12, none⟩ (.int .i64 t376)) = w17 at n0_ n1_ n2_ n3_ ⊢
    have HO362 := n0_
    have HO365 := n1_
    have BK377 := n2_
    have HB := n3_
    clear n0_ n1_ n2_ n3_
    have n0_ := Aside0.mk (Kd.R_drew HO362.out)
    have n1_ := Aside0.mk (Kd.R_drew HO365.out)
    have n2_ := Aside0.mk (blk_drew BK377.out)
    have n3_ := Aside0.mk (below_drew1 HB.out)
    clear HO362
    clear HO365
    clear BK377
    clear HB
    have HO362 := n0_
    have HO365 := n1_
    have BK377 := n2_
    have HB := n3_
    clear n0_ n1_ n2_ n3_
    refine start_ (n := 14) (S := fun w' => w'.cell? ⟨gb377, 0, none⟩ = some (.slice Ao14 t360.length co14) ∧ w'.cell? ⟨gb377, 1, none⟩ = some (.slice Ao16 t363.length co16) ∧ w'.cell? ⟨gb377, 2, none⟩ = some (.int .i64 t366) ∧ w'.cell? ⟨gb377, 3, none⟩ = some (.int .i64 t367) ∧ w'.cell? ⟨gb377, 4, none⟩ = some (.int .i64 t368) ∧ w'.cell? ⟨gb377, 5, none⟩ = some (.int .i64 t369) ∧ w'.cell? ⟨gb377, 6, none⟩ = some (.int .i64 t370) ∧ w'.cell? ⟨gb377, 7, none⟩ = some (.int .i64 t371) ∧ w'.cell? ⟨gb377, 8, none⟩ = some (.int .i64 t372) ∧ w'.cell? ⟨gb377, 9, none⟩ = some (.int .i64 t373) ∧ w'.cell? ⟨gb377, 10, none⟩ = some (.int .i64 t374) ∧ w'.cell? ⟨gb377, 11, none⟩ = some (.int .i64 t375) ∧ w'.cell? ⟨gb377, 12, none⟩ = some (.int .i64 t376)) (ds := []) #[false, false, false, false, false, false, false, false, false, false, false, false, false, false] (by kernel_rfl) rfl rfl ⟨(blk_cell BK377.out 0).trans rfl, (blk_cell BK377.out 1).trans rfl, (blk_cell BK377.out 2).trans rfl, (blk_cell BK377.out 3).trans rfl, (blk_cell BK377.out 4).trans rfl, (blk_cell BK377.out 5).trans rfl, (blk_cell BK377.out 6).trans rfl, (blk_cell BK377.out 7).trans rfl, (blk_cell BK377.out 8).trans rfl, (blk_cell BK377.out 9).trans rfl, (blk_cell BK377.out 10).trans rfl, (blk_cell BK377.out 11).trans rfl, (blk_cell BK377.out 12).trans rfl⟩ (fun hHeld => ?_); refine with_tabW drumlinelaw6_HopsSteps.tab4 drumlinelaw6_HopsSteps.bits4 (fun HT_ HW_ => ?_)
    generalize w17.drew = w18 at HO362 HO365 BK377 HB hHeld ⊢
    refine pure_ (i := 0) (N := some 18) (v := ?_) (a' := ?_) #[true, false, false, false, false, false, false, false, false, false, false, false, false, false] rfl rfl (any_of HT_.out (by kernel_rfl)) (fun _ _ _ h => h) (Or.inl ⟨by rfl, ?_⟩) ?_ ?_
    rotate_left
    ·intro w'
     go_simp
     with_reducible rfl
    rotate_left
    ·simp only [Act.put, sAa, sBb, sCc, i64_w, i32_w]
     rfl
    refine pure_ (i := 1) (N := some 19) (v := ?_) (a' := ?_) #[true, true, false, false, false, false, false, false, false, false, false, false, false, false] rfl rfl (any_of HT_.out (by kernel_rfl)) (fun _ _ _ h => h) (Or.inl ⟨by rfl, ?_⟩) ?_ ?_
    rotate_left
    ·intro w'
     go_simp
     with_reducible rfl
    rotate_left
    ·simp only [Act.put, sAa, sBb, sCc, i64_w, i32_w]
     rfl
    refine pure_ (i := 2) (N := some 20) (v := ?_) (a' := ?_) #[true, true, true, false, false, false, false, false, false, false, false, false, false, false] rfl rfl (any_of HT_.out (by kernel_rfl)) (fun _ _ _ h => h) (Or.inl ⟨by rfl, ?_⟩) ?_ ?_
    rotate_left
    ·intro w'
     go_simp
     with_reducible rfl
    rotate_left
    ·simp only [Act.put, sAa, sBb, sCc, i64_w, i32_w]
     rfl
    refine pure_ (i := 6) (N := some 24) (v := ?_) (a' := ?_) #[true, true, true, false, false, false, true, false, false, false, false, false, false, false] rfl rfl (any_of HT_.out (by kernel_rfl)) (fun _ _ _ h => h) (Or.inl ⟨by rfl, ?_⟩) ?_ ?_
    rotate_left
    ·intro w'
     go_simp
     with_reducible rfl
    rotate_left
    ·simp only [Act.put, sAa, sBb, sCc, i64_w, i32_w]
     rfl
    refine pure_ (i := 7) (N := some 25) (v := ?_) (a' := ?_) #[true, true, true, false, false, false, true, true, false, false, false, false, false, false] rfl rfl (any_of HT_.out (by kernel_rfl)) (fun _ _ _ h => h) (Or.inl ⟨by rfl, ?_⟩) ?_ ?_
    rotate_left
    ·intro w'
     go_simp
     with_reducible rfl
    rotate_left
    ·simp only [Act.put, sAa, sBb, sCc, i64_w, i32_w]
     rfl
    refine pure_ (i := 8) (N := some 26) (v := ?_) (a' := ?_) #[true, true, true, false, false, false, true, true, true, false, false, false, false, false] rfl rfl (any_of HT_.out (by kernel_rfl)) (fun _ _ _ h => h) (Or.inl ⟨by rfl, ?_⟩) ?_ ?_
    rotate_left
    ·intro w'
     go_simp
     with_reducible rfl
    rotate_left
    ·simp only [Act.put, sAa, sBb, sCc, i64_w, i32_w]
     rfl
    refine take_ (i := 3) (N := some 21) (v := ?_) (a' := ?_) #[true, true, true, true, false, false, true, true, true, false, false, false, false, false] rfl rfl (take_ofW HT_.out HW_.out (by kernel_rfl)) (fun _ _ _ h => h) (Or.inl ⟨by rfl, ?_⟩) hHeld ?_ ?_
    rotate_left
    ·rintro w' ⟨s0, s1, s2, s3, s4, s5, s6, s7, s8, s9, s10, s11, s12⟩
     go_simp
     with_reducible rfl
    rotate_left
    ·simp only [Act.put, sAa, sBb, sCc, i64_w, i32_w]
     rfl
    refine pure_ (i := 4) (N := some 22) (v := ?_) (a' := ?_) #[true, true, true, true, true, false, true, true, true, false, false, false, false, false] rfl rfl (any_of HT_.out (by kernel_rfl)) (fun _ _ _ h => h) (Or.inl ⟨by rfl, ?_⟩) ?_ ?_
    rotate_left
    ·intro w'
     go_simp
     with_reducible rfl
    rotate_left
    ·simp only [Act.put, sAa, sBb, sCc, i64_w, i32_w]
     rfl
    refine pure_ (i := 5) (N := some 23) (v := ?_) (a' := ?_) #[true, true, true, true, true, true, true, true, true, false, false, false, false, false] rfl rfl (any_of HT_.out (by kernel_rfl)) (fun _ _ _ h => h) (Or.inl ⟨by rfl, ?_⟩) ?_ ?_
    rotate_left
    ·intro w'
     go_simp
     with_reducible rfl
    rotate_left
    ·simp only [Act.put, sAa, sBb, sCc, i64_w, i32_w]
     rfl
    refine pure_ (i := 12) (N := some 8) (v := ?_) (a' := ?_) #[true, true, true, true, true, true, true, true, true, false, false, false, true, false] rfl rfl (any_of HT_.out (by kernel_rfl)) (fun _ _ _ h => h) (Or.inl ⟨by rfl, ?_⟩) ?_ ?_
    rotate_left
    ·intro w'
     go_simp
     with_reducible rfl
    rotate_left
    ·simp only [Act.put, sAa, sBb, sCc, i64_w, i32_w]
     rfl
    refine take_ (i := 9) (N := some 27) (v := ?_) (a' := ?_) #[true, true, true, true, true, true, true, true, true, true, false, false, true, false] rfl rfl (take_ofW HT_.out HW_.out (by kernel_rfl)) (fun _ _ _ h => h) (Or.inl ⟨by rfl, ?_⟩) hHeld ?_ ?_
    rotate_left
    ·rintro w' ⟨s0, s1, s2, s3, s4, s5, s6, s7, s8, s9, s10, s11, s12⟩
     go_simp
     with_reducible rfl
    rotate_left
    ·simp only [Act.put, sAa, sBb, sCc, i64_w, i32_w]
     rfl
    refine pure_ (i := 10) (N := some 28) (v := ?_) (a' := ?_) #[true, true, true, true, true, true, true, true, true, true, true, false, true, false] rfl rfl (any_of HT_.out (by kernel_rfl)) (fun _ _ _ h => h) (Or.inl ⟨by rfl, ?_⟩) ?_ ?_
    rotate_left
    ·intro w'
     go_simp
     with_reducible rfl
    rotate_left
    ·simp only [Act.put, sAa, sBb, sCc, i64_w, i32_w]
     rfl
    refine pure_ (i := 11) (N := some 29) (v := ?_) (a' := ?_) #[true, true, true, true, true, true, true, true, true, true, true, true, true, false] rfl rfl (any_of HT_.out (by kernel_rfl)) (fun _ _ _ h => h) (Or.inl ⟨by rfl, ?_⟩) ?_ ?_
    rotate_left
    ·intro w'
     go_simp
     with_reducible rfl
    rotate_left
    ·simp only [Act.put, sAa, sBb, sCc, i64_w, i32_w]
     rfl
    refine pure_ (i := 13) (N := some 9) (v := ?_) (a' := ?_) #[true, true, true, true, true, true, true, true, true, true, true, true, true, true] rfl rfl (any_of HT_.out (by kernel_rfl)) (fun _ _ _ h => h) (Or.inl ⟨by rfl, ?_⟩) ?_ ?_
    rotate_left
    ·intro w'
     go_simp
     with_reducible rfl
    rotate_left
    ·simp only [Act.put, sAa, sBb, sCc, i64_w, i32_w]
     rfl
    refine done_ (done_of HT_.out (by kernel_rfl)) ?_
    obtain ⟨hcz19_0, hcz19_1, hcz19_2, hcz19_3, hcz19_4, hcz19_5, hcz19_6, hcz19_7, hcz19_8, hcz19_9, hcz19_10, hcz19_11, hcz19_12⟩ := cellsK13 BK377.out
    obtain ⟨hfz19_0, hfz19_1, hfz19_2, hfz19_3, hfz19_4, hfz19_5, hfz19_6, hfz19_7, hfz19_8, hfz19_9, hfz19_10, hfz19_11, hfz19_12⟩ := frozK13 BK377.out
    try go_wp2_with (first | ((with_reducible refine gate_callee (f := 16) rfl ?_); refine goesL_ (some 33) rfl rfl Tryd.func16 (by kernel_rfl) rfl #[.agg #[.slice Ao14 t360.length co14, .slice Ao16 t363.length co16, .int .i64 t366, .int .i64 t367, .int .i64 t368, .int .i64 t369, .int .i64 t370, .int .i64 t371, .int .i64 t372, .int .i64 t373, .int .i64 t374, .int .i64 t375, .int .i64 t376], .int .i64 (Int.tmod (wrap64 (a1)) (t360.length : Int)), .int .i64 (Int.tmod (wrap64 (a2)) (t360.length : Int))] rfl (by (try simp only [List.map_toArray, List.map_cons, List.map_nil]); first | done | rfl | (simp only [List.length_drop, List.length_take]; rfl)) ?_; (with_reducible refine (hops_Way.calls k _ _ t360 _ _ t363 t366 t367 t368 t369 t370 t371 t372 t373 t374 t375 t376 (Int.tmod (wrap64 (a1)) (t360.length : Int)) (Int.tmod (wrap64 (a2)) (t360.length : Int)) t378 _ ?side1 ?side2 ?side3 ?side4 A8.out).mono ?_); (case side1 => repeat (first | exact (Kd.R_reads' HO362.out).2.2 | (with_reducible refine Kd.C_alloc ?_ _) | (with_reducible refine Kd.C_drewN ?_ _) | (with_reducible refine Kd.C_drew ?_))); (case side2 => exact (Kd.R_reads' HO362.out).2.1); (case side3 => repeat (first | exact (Kd.R_reads' HO365.out).2.2 | (with_reducible refine Kd.C_alloc ?_ _) | (with_reducible refine Kd.C_drewN ?_ _) | (with_reducible refine Kd.C_drew ?_))); (case side4 => exact (Kd.R_reads' HO365.out).2.1); rintro e w20 ⟨v379, rfl, ho0, hb⟩; refine ⟨_, rfl, ?_⟩; have n0_ := Aside0.mk (Kd.R_below (by (with_reducible repeat (first | apply Kd.R_alloc | apply Kd.R_drewN | apply Kd.R_drew)); exact HO362.out) hb); have n1_ := Aside0.mk (Kd.R_below (by (with_reducible repeat (first | apply Kd.R_alloc | apply Kd.R_drewN | apply Kd.R_drew)); exact HO365.out) hb); have n2_ := Aside0.mk (Kd.R_lower ho0 (below_size (by repeat (first | (with_reducible first | exact HB.out | apply below_alloc | apply pw_below_drewN | apply below_drew1 | refine below_set ?_ GE377.out) | exact HB.out)))); have n3_ := Aside0.mk (blk_below (g := gb377) (o := .cells #[.slice Ao14 t360.length co14, .slice Ao16 t363.length co16, .int .i64 t366, .int .i64 t367, .int .i64 t368, .int .i64 t369, .int .i64 t370, .int .i64 t371, .int .i64 t372, .int .i64 t373, .int .i64 t374, .int .i64 t375, .int .i64 t376] 25 (0, 0)) (by (with_reducible repeat (first | refine blk_drewN ?_ _ | refine blk_drew ?_ | refine blk_alloc ?_ _)); exact BK377.out) hb); have n4_ := Aside0.mk (below_step (by repeat (first | (with_reducible first | exact HB.out | apply below_alloc | apply pw_below_drewN | apply below_drew1 | refine below_set ?_ GE377.out) | exact HB.out)) hb); clear HO362; clear HO365; clear BK377; clear HB; have HO362 := n0_; have HO365 := n1_; have HO380 := n2_; have BK377 := n3_; have HB := n4_; clear n0_ n1_ n2_ n3_ n4_; (try clear hb); (try clear hb2); (try clear hk); (try clear hi); (try clear ho0); obtain ⟨Ao21, co21, eo21⟩ := Kd.R_slice HO380.out; subst eo21; obtain ⟨hcz22_0, hcz22_1, hcz22_2, hcz22_3, hcz22_4, hcz22_5, hcz22_6, hcz22_7, hcz22_8, hcz22_9, hcz22_10, hcz22_11, hcz22_12⟩ := cellsK13 BK377.out; obtain ⟨hfz22_0, hfz22_1, hfz22_2, hfz22_3, hfz22_4, hfz22_5, hfz22_6, hfz22_7, hfz22_8, hfz22_9, hfz22_10, hfz22_11, hfz22_12⟩ := frozK13 BK377.out) | ((with_reducible refine gate_callee (f := 11) rfl ?_); refine goesL_ (some 39) rfl rfl Tryd.func11 (by kernel_rfl) rfl #[.agg #[.slice Ao14 t360.length co14, .slice Ao16 t363.length co16, .int .i64 t366, .int .i64 t367, .int .i64 t368, .int .i64 t369, .int .i64 t370, .int .i64 t371, .int .i64 t372, .int .i64 t373, .int .i64 t374, .int .i64 t375, .int .i64 t376], .int .i64 (Int.tmod (wrap64 (a1)) (t360.length : Int)), .int .i64 (Int.tmod (wrap64 (a2)) (t360.length : Int))] rfl (by (try simp only [List.map_toArray, List.map_cons, List.map_nil]); first | done | rfl | (simp only [List.length_drop, List.length_take]; rfl)) ?_; (with_reducible refine (hops_Dist.calls k _ _ t360 _ _ t363 t366 t367 t368 t369 t370 t371 t372 t373 t374 t375 t376 (Int.tmod (wrap64 (a1)) (t360.length : Int)) (Int.tmod (wrap64 (a2)) (t360.length : Int)) t381 _ ?side1 ?side2 ?side3 ?side4 A9.out).mono ?_); (case side1 => repeat (first | exact (Kd.R_reads' HO362.out).2.2 | (with_reducible refine Kd.C_alloc ?_ _) | (with_reducible refine Kd.C_drewN ?_ _) | (with_reducible refine Kd.C_drew ?_))); (case side2 => exact (Kd.R_reads' HO362.out).2.1); (case side3 => repeat (first | exact (Kd.R_reads' HO365.out).2.2 | (with_reducible refine Kd.C_alloc ?_ _) | (with_reducible refine Kd.C_drewN ?_ _) | (with_reducible refine Kd.C_drew ?_))); (case side4 => exact (Kd.R_reads' HO365.out).2.1); rintro e w23 ⟨rfl, hb⟩; refine ⟨_, rfl, ?_⟩; have n0_ := Aside0.mk (Kd.R_below (by (with_reducible repeat (first | apply Kd.R_alloc | apply Kd.R_drewN | apply Kd.R_drew)); exact HO362.out) hb); have n1_ := Aside0.mk (Kd.R_below (by (with_reducible repeat (first | apply Kd.R_alloc | apply Kd.R_drewN | apply Kd.R_drew)); exact HO365.out) hb); have n2_ := Aside0.mk (Kd.R_below (by (with_reducible repeat (first | apply Kd.R_alloc | apply Kd.R_drewN | apply Kd.R_drew)); exact HO380.out) hb); have n3_ := Aside0.mk (blk_below (g := gb377) (o := .cells #[.slice Ao14 t360.length co14, .slice Ao16 t363.length co16, .int .i64 t366, .int .i64 t367, .int .i64 t368, .int .i64 t369, .int .i64 t370, .int .i64 t371, .int .i64 t372, .int .i64 t373, .int .i64 t374, .int .i64 t375, .int .i64 t376] 25 (0, 0)) (by (with_reducible repeat (first | refine blk_drewN ?_ _ | refine blk_drew ?_ | refine blk_alloc ?_ _)); exact BK377.out) hb); have n4_ := Aside0.mk (below_step (by repeat (first | (with_reducible first | exact HB.out | apply below_alloc | apply pw_below_drewN | apply below_drew1 | refine below_set ?_ GE377.out) | exact HB.out)) hb); clear HO362; clear HO365; clear HO380; clear BK377; clear HB; have HO362 := n0_; have HO365 := n1_; have HO380 := n2_; have BK377 := n3_; have HB := n4_; clear n0_ n1_ n2_ n3_ n4_; (try clear hb); (try clear hb2); (try clear hk); (try clear hi)))
    go_loopg [8, 11] k (fun kq v8 v11 w' => ∃ (x8_1 : Int) (x11_1 : Int), v8 = .int .i64 x8_1 ∧ v11 = .int .i64 x11_1 ∧ Aside0 (drumlinelaw6_HopsSteps.l0 kq x8_1 (Int.tmod (wrap64 (a2)) (t360.length : Int)) t378 x11_1 t360 t363 t366 t367 t368 t369 t370 t371 t372 t373 t374 t375 t376 = some r) ∧ Aside0 (kq ≤ k) ∧ Aside0 (Kd.R (Kd.int .i64) 3 w' w.heap.size (fun _ => True) (.slice Ao21 t378.length co21) t378) ∧ Aside0 (Kd.R k60 60 w' w.heap.size (fun _ => True) (.slice Ao14 t360.length co14) t360) ∧ Aside0 (Kd.R k37 37 w' w.heap.size (fun _ => True) (.slice Ao16 t363.length co16) t363) ∧ Aside0 (w'.heap[gb377]? = some (.cells #[(.slice Ao14 t360.length co14), (.slice Ao16 t363.length co16), .int .i64 t366, .int .i64 t367, .int .i64 t368, .int .i64 t369, .int .i64 t370, .int .i64 t371, .int .i64 t372, .int .i64 t373, .int .i64 t374, .int .i64 t375, .int .i64 t376] 25 (0, 0))) ∧ Aside0 (Below w.heap.size w w'))
    case atStart => exact ⟨(Int.tmod (wrap64 (a1)) (t360.length : Int)), (0), (by first | rfl | (simp; done) | (simp [*]; done) | (have := TNA.out; unfold wrap64; congr 1; omega) | (unfold wrap64; omega)), (by first | rfl | (simp; done) | (simp [*]; done) | (have := TNA.out; unfold wrap64; congr 1; omega) | (unfold wrap64; omega)), H', ⟨Nat.le_refl _⟩, ⟨by (with_reducible repeat (first | apply Kd.R_alloc | apply Kd.R_drewN | apply Kd.R_drew)); exact HO380.out⟩, ⟨by (with_reducible repeat (first | apply Kd.R_alloc | apply Kd.R_drewN | apply Kd.R_drew)); exact HO362.out⟩, ⟨by (with_reducible repeat (first | apply Kd.R_alloc | apply Kd.R_drewN | apply Kd.R_drew)); exact HO365.out⟩, ⟨by (with_reducible repeat (first | refine blk_drewN ?_ _ | refine blk_drew ?_ | refine blk_alloc ?_ _)); exact BK377.out⟩, ⟨by repeat (first | (with_reducible first | exact HB.out | apply below_alloc | apply pw_below_drewN | apply below_drew1 | refine below_set ?_ GE377.out) | exact HB.out)⟩⟩
    case round =>
     clear H'
     try clear c1
     try clear c2
     try clear p2
     try clear c5
     try clear p6
     try clear c7
     try clear c7b0
     try clear c7b1
     try clear c7b2
     try clear c10
     try clear c10b0
     try clear c10b1
     try clear c11
     try clear c16
     try clear c20
     try clear hcz15_0
     try clear hcz15_1
     try clear hcz15_10
     try clear hcz15_11
     try clear hcz15_12
     try clear hcz15_2
     try clear hcz15_3
     try clear hcz15_4
     try clear hcz15_5
     try clear hcz15_6
     try clear hcz15_7
     try clear hcz15_8
     try clear hcz15_9
     try clear hcz19_0
     try clear hcz19_1
     try clear hcz19_10
     try clear hcz19_11
     try clear hcz19_12
     try clear hcz19_2
     try clear hcz19_3
     try clear hcz19_4
     try clear hcz19_5
     try clear hcz19_6
     try clear hcz19_7
     try clear hcz19_8
     try clear hcz19_9
     try clear hcz22_0
     try clear hcz22_1
     try clear hcz22_10
     try clear hcz22_11
     try clear hcz22_12
     try clear hcz22_2
     try clear hcz22_3
     try clear hcz22_4
     try clear hcz22_5
     try clear hcz22_6
     try clear hcz22_7
     try clear hcz22_8
     try clear hcz22_9
     try clear hfz15_0
     try clear hfz15_1
     try clear hfz15_10
     try clear hfz15_11
     try clear hfz15_12
     try clear hfz15_2
     try clear hfz15_3
     try clear hfz15_4
     try clear hfz15_5
     try clear hfz15_6
     try clear hfz15_7
     try clear hfz15_8
     try clear hfz15_9
     try clear hfz19_0
     try clear hfz19_1
     try clear hfz19_10
     try clear hfz19_11
     try clear hfz19_12
     try clear hfz19_2
     try clear hfz19_3
     try clear hfz19_4
     try clear hfz19_5
     try clear hfz19_6
     try clear hfz19_7
     try clear hfz19_8
     try clear hfz19_9
     try clear hfz22_0
     try clear hfz22_1
     try clear hfz22_10
     try clear hfz22_11
     try clear hfz22_12
     try clear hfz22_2
     try clear hfz22_3
     try clear hfz22_4
     try clear hfz22_5
     try clear hfz22_6
     try clear hfz22_7
     try clear hfz22_8
     try clear hfz22_9
     obtain ⟨x8_1, x11_1, rfl, rfl, HA, HK1, HO_10, HO_378000, HO_378001, BK377, HB⟩ := hrel
     cases gk with
     | zero => exact absurd HA.out (by simp [drumlinelaw6_HopsSteps.l0])
     | succ k1 =>
      have H := HA.out
      clear HA
      simp only [drumlinelaw6_HopsSteps.l0] at H
      by_cases c24 : x11_1 < (t378.length : Int)
      ·rw [if_pos c24] at H
       have c24b0 : decide (x11_1 < (t378.length : Int)) = true := decide_eq_true c24
       clear c24
       have HC25 := Aside0.mk H
       clear H
       go_upto_region 11 with (fail)
       go_cut [72] (fun v72 wc => ∃ (kq : Nat) (x72_24 : Bool), v72 = .bool x72_24 ∧ Aside0 (drumlinelaw6_HopsSteps.j1 kq x8_1 (Int.tmod (wrap64 (a2)) (t360.length : Int)) t378 x11_1 x72_24 t360 t363 t366 t367 t368 t369 t370 t371 t372 t373 t374 t375 t376 = some r) ∧ Aside0 (kq ≤ k1) ∧ Aside0 (Kd.R (Kd.int .i64) 3 wc w.heap.size (fun _ => True) (.slice Ao21 t378.length co21) t378) ∧ Aside0 (Kd.R k60 60 wc w.heap.size (fun _ => True) (.slice Ao14 t360.length co14) t360) ∧ Aside0 (Kd.R k37 37 wc w.heap.size (fun _ => True) (.slice Ao16 t363.length co16) t363) ∧ Aside0 (wc.heap[gb377]? = some (.cells #[(.slice Ao14 t360.length co14), (.slice Ao16 t363.length co16), .int .i64 t366, .int .i64 t367, .int .i64 t368, .int .i64 t369, .int .i64 t370, .int .i64 t371, .int .i64 t372, .int .i64 t373, .int .i64 t374, .int .i64 t375, .int .i64 t376] 25 (0, 0))) ∧ Aside0 (Below w.heap.size w wc))
       case first =>
        have H := HC25.out
        clear HC25
        by_cases c26 : 0 ≤ x11_1
        ·rw [if_pos c26] at H
         have c26b0 : decide (0 ≤ x11_1) = true := decide_eq_true c26
         clear c26
         (first | rw [c26b0] | (simp only [i64_w, i32_w]; rw [c26b0]) | skip)
         by_cases c27 : (rd t378 x11_1) < 0
         ·rw [if_pos c27] at H
          have c27b0 : decide ((rd t378 x11_1) < 0) = true := decide_eq_true c27
          clear c27
          have H' := Aside0.mk H
          clear H
          try go_wp2
          have n0_ := Aside0.mk (Kd.R_drew HO_10.out)
          have n1_ := Aside0.mk (Kd.R_drew HO_378000.out)
          have n2_ := Aside0.mk (Kd.R_drew HO_378001.out)
          have n3_ := Aside0.mk (blk_drew BK377.out)
          have n4_ := Aside0.mk (below_drew1 HB.out)
          clear HO_10
          clear HO_378000
          clear HO_378001
          clear BK377
          clear HB
          have HO_10 := n0_
          have HO_378000 := n1_
          have HO_378001 := n2_
          have BK377 := n3_
          have HB := n4_
          clear n0_ n1_ n2_ n3_ n4_
          have p382 : 0 ≤ (x11_1 : Int) := of_decide_eq_true (by first | (with_reducible assumption) | assumption)
          have q382 : x11_1 < (t378.length : Int) := of_decide_eq_true (by first | (with_reducible assumption) | assumption)
          obtain ⟨ad382, e382, hx382_0⟩ := Kd.at_int (Kd.R_reads' HO_10.out).2.2 x11_1 p382 q382
          cases e382
          replace p382 := eq_true p382
          replace q382 := eq_true q382
          refine start_ (n := 26) (S := fun w' => w'.cell? (ad382.add (x11_1).toNat) = some (.int .i64 (rd t378 x11_1))) (ds := []) #[false, false, false, false, false, false, false, false, false, false, false, false, false, false, false, false, false, false, false, false, false, false, false, false, false, false] (by kernel_rfl) rfl rfl (hx382_0) (fun hHeld => ?_); refine with_tabW drumlinelaw6_HopsSteps.tab11 drumlinelaw6_HopsSteps.bits11 (fun HT_ HW_ => ?_)
          generalize wr.drew = w28 at HO_10 HO_378000 HO_378001 BK377 HB hx382_0 hHeld ⊢
          refine pure_ (i := 0) (N := some 47) (v := ?_) (a' := ?_) #[true, false, false, false, false, false, false, false, false, false, false, false, false, false, false, false, false, false, false, false, false, false, false, false, false, false] rfl rfl (any_of HT_.out (by kernel_rfl)) (fun _ _ _ h => h) (Or.inl ⟨by rfl, ?_⟩) ?_ ?_
          rotate_left
          ·intro w'
           go_simp
           with_reducible rfl
          rotate_left
          ·simp only [Act.put, sAa, sBb, sCc, i64_w, i32_w]
           rfl
          refine pure_ (i := 1) (N := some 48) (v := ?_) (a' := ?_) #[true, true, false, false, false, false, false, false, false, false, false, false, false, false, false, false, false, false, false, false, false, false, false, false, false, false] rfl rfl (any_of HT_.out (by kernel_rfl)) (fun _ _ _ h => h) (Or.inl ⟨by rfl, ?_⟩) ?_ ?_
          rotate_left
          ·intro w'
           go_simp
           with_reducible rfl
          rotate_left
          ·simp only [Act.put, sAa, sBb, sCc, i64_w, i32_w]
           rfl
          refine pure_ (i := 2) (N := some 49) (v := ?_) (a' := ?_) #[true, true, true, false, false, false, false, false, false, false, false, false, false, false, false, false, false, false, false, false, false, false, false, false, false, false] rfl rfl (any_of HT_.out (by kernel_rfl)) (fun _ _ _ h => h) (Or.inl ⟨by rfl, ?_⟩) ?_ ?_
          rotate_left
          ·intro w'
           go_simp
           with_reducible rfl
          rotate_left
          ·simp only [Act.put, sAa, sBb, sCc, i64_w, i32_w]
           rfl
          refine take_ (i := 3) (N := some 50) (v := ?_) (a' := ?_) #[true, true, true, true, false, false, false, false, false, false, false, false, false, false, false, false, false, false, false, false, false, false, false, false, false, false] rfl rfl (take_ofW HT_.out HW_.out (by kernel_rfl)) (fun _ _ _ h => h) (Or.inl ⟨by rfl, ?_⟩) hHeld ?_ ?_
          rotate_left
          ·intro w' s0
           go_simp
           with_reducible rfl
          rotate_left
          ·simp only [Act.put, sAa, sBb, sCc, i64_w, i32_w]
           rfl
          refine pure_ (i := 4) (N := some 51) (v := ?_) (a' := ?_) #[true, true, true, true, true, false, false, false, false, false, false, false, false, false, false, false, false, false, false, false, false, false, false, false, false, false] rfl rfl (any_of HT_.out (by kernel_rfl)) (fun _ _ _ h => h) (Or.inl ⟨by rfl, ?_⟩) ?_ ?_
          rotate_left
          ·intro w'
           go_simp
           with_reducible rfl
          rotate_left
          ·simp only [Act.put, sAa, sBb, sCc, i64_w, i32_w]
           rfl
          refine pure_ (i := 5) (N := some 52) (v := ?_) (a' := ?_) #[true, true, true, true, true, true, false, false, false, false, false, false, false, false, false, false, false, false, false, false, false, false, false, false, false, false] rfl rfl (any_of HT_.out (by kernel_rfl)) (fun _ _ _ h => h) (Or.inl ⟨by rfl, ?_⟩) ?_ ?_
          rotate_left
          ·intro w'
           go_simp
           with_reducible rfl
          rotate_left
          ·simp only [Act.put, sAa, sBb, sCc, i64_w, i32_w]
           rfl
          refine pure_ (i := 6) (N := some 53) (v := undef) (a' := ?_) #[true, true, true, true, true, true, true, false, false, false, false, false, false, false, false, false, false, false, false, false, false, false, false, false, false, false] rfl rfl (any_of HT_.out (by kernel_rfl)) (fun _ _ _ h => h) (Or.inr ⟨by rfl, rfl⟩) ?_ ?_
          rotate_left
          ·simp only [Act.put, sAa, sBb, sCc, i64_w, i32_w]
           rfl
          refine pure_ (i := 7) (N := some 54) (v := undef) (a' := ?_) #[true, true, true, true, true, true, true, true, false, false, false, false, false, false, false, false, false, false, false, false, false, false, false, false, false, false] rfl rfl (any_of HT_.out (by kernel_rfl)) (fun _ _ _ h => h) (Or.inr ⟨by rfl, rfl⟩) ?_ ?_
          rotate_left
          ·simp only [Act.put, sAa, sBb, sCc, i64_w, i32_w]
           rfl
          refine pure_ (i := 8) (N := some 55) (v := undef) (a' := ?_) #[true, true, true, true, true, true, true, true, true, false, false, false, false, false, false, false, false, false, false, false, false, false, false, false, false, false] rfl rfl (any_of HT_.out (by kernel_rfl)) (fun _ _ _ h => h) (Or.inr ⟨by rfl, rfl⟩) ?_ ?_
          rotate_left
          ·simp only [Act.put, sAa, sBb, sCc, i64_w, i32_w]
           rfl
          refine pure_ (i := 9) (N := some 56) (v := undef) (a' := ?_) #[true, true, true, true, true, true, true, true, true, true, false, false, false, false, false, false, false, false, false, false, false, false, false, false, false, false] rfl rfl (any_of HT_.out (by kernel_rfl)) (fun _ _ _ h => h) (Or.inr ⟨by rfl, rfl⟩) ?_ ?_
          rotate_left
          ·simp only [Act.put, sAa, sBb, sCc, i64_w, i32_w]
           rfl
          refine pure_ (i := 10) (N := some 57) (v := undef) (a' := ?_) #[true, true, true, true, true, true, true, true, true, true, true, false, false, false, false, false, false, false, false, false, false, false, false, false, false, false] rfl rfl (any_of HT_.out (by kernel_rfl)) (fun _ _ _ h => h) (Or.inr ⟨by rfl, rfl⟩) ?_ ?_
          rotate_left
          ·simp only [Act.put, sAa, sBb, sCc, i64_w, i32_w]
           rfl
          refine pure_ (i := 11) (N := some 58) (v := undef) (a' := ?_) #[true, true, true, true, true, true, true, true, true, true, true, true, false, false, false, false, false, false, false, false, false, false, false, false, false, false] rfl rfl (any_of HT_.out (by kernel_rfl)) (fun _ _ _ h => h) (Or.inr ⟨by rfl, rfl⟩) ?_ ?_
          rotate_left
          ·simp only [Act.put, sAa, sBb, sCc, i64_w, i32_w]
           rfl
          refine pure_ (i := 12) (N := some 59) (v := undef) (a' := ?_) #[true, true, true, true, true, true, true, true, true, true, true, true, true, false, false, false, false, false, false, false, false, false, false, false, false, false] rfl rfl (any_of HT_.out (by kernel_rfl)) (fun _ _ _ h => h) (Or.inr ⟨by rfl, rfl⟩) ?_ ?_
          rotate_left
          ·simp only [Act.put, sAa, sBb, sCc, i64_w, i32_w]
           rfl
          refine pure_ (i := 13) (N := some 60) (v := undef) (a' := ?_) #[true, true, true, true, true, true, true, true, true, true, true, true, true, true, false, false, false, false, false, false, false, false, false, false, false, false] rfl rfl (any_of HT_.out (by kernel_rfl)) (fun _ _ _ h => h) (Or.inr ⟨by rfl, rfl⟩) ?_ ?_
          rotate_left
          ·simp only [Act.put, sAa, sBb, sCc, i64_w, i32_w]
           rfl
          refine pure_ (i := 14) (N := some 61) (v := ?_) (a' := ?_) #[true, true, true, true, true, true, true, true, true, true, true, true, true, true, true, false, false, false, false, false, false, false, false, false, false, false] rfl rfl (any_of HT_.out (by kernel_rfl)) (fun _ _ _ h => h) (Or.inl ⟨by rfl, ?_⟩) ?_ ?_
          rotate_left
          ·intro w'
           go_simp
           with_reducible rfl
          rotate_left
          ·simp only [Act.put, sAa, sBb, sCc, i64_w, i32_w]
           rfl
          refine pure_ (i := 15) (N := some 62) (v := ?_) (a' := ?_) #[true, true, true, true, true, true, true, true, true, true, true, true, true, true, true, true, false, false, false, false, false, false, false, false, false, false] rfl rfl (any_of HT_.out (by kernel_rfl)) (fun _ _ _ h => h) (Or.inl ⟨by rfl, ?_⟩) ?_ ?_
          rotate_left
          ·intro w'
           go_simp
           with_reducible rfl
          rotate_left
          ·simp only [Act.put, sAa, sBb, sCc, i64_w, i32_w]
           rfl
          refine pure_ (i := 16) (N := some 63) (v := undef) (a' := ?_) #[true, true, true, true, true, true, true, true, true, true, true, true, true, true, true, true, true, false, false, false, false, false, false, false, false, false] rfl rfl (any_of HT_.out (by kernel_rfl)) (fun _ _ _ h => h) (Or.inr ⟨by rfl, rfl⟩) ?_ ?_
          rotate_left
          ·simp only [Act.put, sAa, sBb, sCc, i64_w, i32_w]
           rfl
          refine pure_ (i := 17) (N := some 64) (v := undef) (a' := ?_) #[true, true, true, true, true, true, true, true, true, true, true, true, true, true, true, true, true, true, false, false, false, false, false, false, false, false] rfl rfl (any_of HT_.out (by kernel_rfl)) (fun _ _ _ h => h) (Or.inr ⟨by rfl, rfl⟩) ?_ ?_
          rotate_left
          ·simp only [Act.put, sAa, sBb, sCc, i64_w, i32_w]
           rfl
          refine pure_ (i := 18) (N := some 65) (v := undef) (a' := ?_) #[true, true, true, true, true, true, true, true, true, true, true, true, true, true, true, true, true, true, true, false, false, false, false, false, false, false] rfl rfl (any_of HT_.out (by kernel_rfl)) (fun _ _ _ h => h) (Or.inr ⟨by rfl, rfl⟩) ?_ ?_
          rotate_left
          ·simp only [Act.put, sAa, sBb, sCc, i64_w, i32_w]
           rfl
          refine pure_ (i := 19) (N := some 66) (v := undef) (a' := ?_) #[true, true, true, true, true, true, true, true, true, true, true, true, true, true, true, true, true, true, true, true, false, false, false, false, false, false] rfl rfl (any_of HT_.out (by kernel_rfl)) (fun _ _ _ h => h) (Or.inr ⟨by rfl, rfl⟩) ?_ ?_
          rotate_left
          ·simp only [Act.put, sAa, sBb, sCc, i64_w, i32_w]
           rfl
          refine pure_ (i := 20) (N := some 67) (v := undef) (a' := ?_) #[true, true, true, true, true, true, true, true, true, true, true, true, true, true, true, true, true, true, true, true, true, false, false, false, false, false] rfl rfl (any_of HT_.out (by kernel_rfl)) (fun _ _ _ h => h) (Or.inr ⟨by rfl, rfl⟩) ?_ ?_
          rotate_left
          ·simp only [Act.put, sAa, sBb, sCc, i64_w, i32_w]
           rfl
          refine pure_ (i := 21) (N := some 68) (v := undef) (a' := ?_) #[true, true, true, true, true, true, true, true, true, true, true, true, true, true, true, true, true, true, true, true, true, true, false, false, false, false] rfl rfl (any_of HT_.out (by kernel_rfl)) (fun _ _ _ h => h) (Or.inr ⟨by rfl, rfl⟩) ?_ ?_
          rotate_left
          ·simp only [Act.put, sAa, sBb, sCc, i64_w, i32_w]
           rfl
          refine pure_ (i := 22) (N := some 69) (v := undef) (a' := ?_) #[true, true, true, true, true, true, true, true, true, true, true, true, true, true, true, true, true, true, true, true, true, true, true, false, false, false] rfl rfl (any_of HT_.out (by kernel_rfl)) (fun _ _ _ h => h) (Or.inr ⟨by rfl, rfl⟩) ?_ ?_
          rotate_left
          ·simp only [Act.put, sAa, sBb, sCc, i64_w, i32_w]
           rfl
          refine pure_ (i := 23) (N := some 70) (v := undef) (a' := ?_) #[true, true, true, true, true, true, true, true, true, true, true, true, true, true, true, true, true, true, true, true, true, true, true, true, false, false] rfl rfl (any_of HT_.out (by kernel_rfl)) (fun _ _ _ h => h) (Or.inr ⟨by rfl, rfl⟩) ?_ ?_
          rotate_left
          ·simp only [Act.put, sAa, sBb, sCc, i64_w, i32_w]
           rfl
          refine pure_ (i := 24) (N := some 71) (v := undef) (a' := ?_) #[true, true, true, true, true, true, true, true, true, true, true, true, true, true, true, true, true, true, true, true, true, true, true, true, true, false] rfl rfl (any_of HT_.out (by kernel_rfl)) (fun _ _ _ h => h) (Or.inr ⟨by rfl, rfl⟩) ?_ ?_
          rotate_left
          ·simp only [Act.put, sAa, sBb, sCc, i64_w, i32_w]
           rfl
          refine pure_ (i := 25) (N := some 72) (v := ?_) (a' := ?_) #[true, true, true, true, true, true, true, true, true, true, true, true, true, true, true, true, true, true, true, true, true, true, true, true, true, true] rfl rfl (any_of HT_.out (by kernel_rfl)) (fun _ _ _ h => h) (Or.inl ⟨by rfl, ?_⟩) ?_ ?_
          rotate_left
          ·intro w'
           go_simp
           with_reducible rfl
          rotate_left
          ·simp only [Act.put, sAa, sBb, sCc, i64_w, i32_w]
           rfl
          refine done_ (done_of HT_.out (by kernel_rfl)) ?_
          try go_wp2
          go_meet
          case rel => exact ⟨_, (true), (by first | rfl | (simp; done) | (simp [*]; done) | (have := TNA.out; unfold wrap64; congr 1; omega) | (unfold wrap64; omega)), H', ⟨by have := HK1.out; first | omega | exact Nat.le_refl _⟩, ⟨by (with_reducible repeat (first | apply Kd.R_alloc | apply Kd.R_drewN | apply Kd.R_drew)); exact HO_10.out⟩, ⟨by (with_reducible repeat (first | apply Kd.R_alloc | apply Kd.R_drewN | apply Kd.R_drew)); exact HO_378000.out⟩, ⟨by (with_reducible repeat (first | apply Kd.R_alloc | apply Kd.R_drewN | apply Kd.R_drew)); exact HO_378001.out⟩, ⟨by (with_reducible repeat (first | refine blk_drewN ?_ _ | refine blk_drew ?_ | refine blk_alloc ?_ _)); exact BK377.out⟩, ⟨by repeat (first | (with_reducible first | exact HB.out | apply below_alloc | apply pw_below_drewN | apply below_drew1 | refine below_set ?_ GE377.out) | exact HB.out)⟩⟩
         ·rw [if_neg c27] at H
          have c27b0 : decide ((rd t378 x11_1) < 0) = false := decide_eq_false c27
          clear c27
          by_cases c29 : (rd t378 x11_1) ≥ (t363.length : Int)
          ·rw [if_pos c29] at H
           have c29b0 : decide ((t363.length : Int) ≤ (rd t378 x11_1)) = true := decide_eq_true c29
           clear c29
           have H' := Aside0.mk H
           clear H
           try go_wp2
           have n0_ := Aside0.mk (Kd.R_drew HO_10.out)
           have n1_ := Aside0.mk (Kd.R_drew HO_378000.out)
           have n2_ := Aside0.mk (Kd.R_drew HO_378001.out)
           have n3_ := Aside0.mk (blk_drew BK377.out)
           have n4_ := Aside0.mk (below_drew1 HB.out)
           clear HO_10
           clear HO_378000
           clear HO_378001
           clear BK377
           clear HB
           have HO_10 := n0_
           have HO_378000 := n1_
           have HO_378001 := n2_
           have BK377 := n3_
           have HB := n4_
           clear n0_ n1_ n2_ n3_ n4_
           have p382 : 0 ≤ (x11_1 : Int) := of_decide_eq_true (by first | (with_reducible assumption) | assumption)
           have q382 : x11_1 < (t378.length : Int) := of_decide_eq_true (by first | (with_reducible assumption) | assumption)
           obtain ⟨ad382, e382, hx382_0⟩ := Kd.at_int (Kd.R_reads' HO_10.out).2.2 x11_1 p382 q382
           cases e382
           replace p382 := eq_true p382
           replace q382 := eq_true q382
           have p383 : 0 ≤ (x11_1 : Int) := of_decide_eq_true (by first | (with_reducible assumption) | assumption)
           have q383 : x11_1 < (t378.length : Int) := of_decide_eq_true (by first | (with_reducible assumption) | assumption)
           obtain ⟨ad383, e383, hx383_0⟩ := Kd.at_int (Kd.R_reads' HO_10.out).2.2 x11_1 p383 q383
           obtain rfl : ad382 = ad383 := (by injection e383)
           replace p383 := eq_true p383
           replace q383 := eq_true q383
           refine start_ (n := 26) (S := fun w' => w'.cell? ⟨gb377, 0, none⟩ = some (.slice Ao14 t360.length co14) ∧ w'.cell? ⟨gb377, 1, none⟩ = some (.slice Ao16 t363.length co16) ∧ w'.cell? ⟨gb377, 2, none⟩ = some (.int .i64 t366) ∧ w'.cell? ⟨gb377, 3, none⟩ = some (.int .i64 t367) ∧ w'.cell? ⟨gb377, 4, none⟩ = some (.int .i64 t368) ∧ w'.cell? ⟨gb377, 5, none⟩ = some (.int .i64 t369) ∧ w'.cell? ⟨gb377, 6, none⟩ = some (.int .i64 t370) ∧ w'.cell? ⟨gb377, 7, none⟩ = some (.int .i64 t371) ∧ w'.cell? ⟨gb377, 8, none⟩ = some (.int .i64 t372) ∧ w'.cell? ⟨gb377, 9, none⟩ = some (.int .i64 t373) ∧ w'.cell? ⟨gb377, 10, none⟩ = some (.int .i64 t374) ∧ w'.cell? ⟨gb377, 11, none⟩ = some (.int .i64 t375) ∧ w'.cell? ⟨gb377, 12, none⟩ = some (.int .i64 t376) ∧ w'.cell? (ad382.add (x11_1).toNat) = some (.int .i64 (rd t378 x11_1)) ∧ w'.cell? (ad382.add (x11_1).toNat) = some (.int .i64 (rd t378 x11_1))) (ds := []) #[false, false, false, false, false, false, false, false, false, false, false, false, false, false, false, false, false, false, false, false, false, false, false, false, false, false] (by kernel_rfl) rfl rfl ⟨(blk_cell BK377.out 0).trans rfl, (blk_cell BK377.out 1).trans rfl, (blk_cell BK377.out 2).trans rfl, (blk_cell BK377.out 3).trans rfl, (blk_cell BK377.out 4).trans rfl, (blk_cell BK377.out 5).trans rfl, (blk_cell BK377.out 6).trans rfl, (blk_cell BK377.out 7).trans rfl, (blk_cell BK377.out 8).trans rfl, (blk_cell BK377.out 9).trans rfl, (blk_cell BK377.out 10).trans rfl, (blk_cell BK377.out 11).trans rfl, (blk_cell BK377.out 12).trans rfl, hx382_0, hx383_0⟩ (fun hHeld => ?_); refine with_tabW drumlinelaw6_HopsSteps.tab11 drumlinelaw6_HopsSteps.bits11 (fun HT_ HW_ => ?_)
           generalize wr.drew = w30 at HO_10 HO_378000 HO_378001 BK377 HB hx382_0 hx383_0 hHeld ⊢
           refine pure_ (i := 0) (N := some 47) (v := ?_) (a' := ?_) #[true, false, false, false, false, false, false, false, false, false, false, false, false, false, false, false, false, false, false, false, false, false, false, false, false, false] rfl rfl (any_of HT_.out (by kernel_rfl)) (fun _ _ _ h => h) (Or.inl ⟨by rfl, ?_⟩) ?_ ?_
           rotate_left
           ·intro w'
            go_simp
            with_reducible rfl
           rotate_left
           ·simp only [Act.put, sAa, sBb, sCc, i64_w, i32_w]
            rfl
           refine pure_ (i := 1) (N := some 48) (v := ?_) (a' := ?_) #[true, true, false, false, false, false, false, false, false, false, false, false, false, false, false, false, false, false, false, false, false, false, false, false, false, false] rfl rfl (any_of HT_.out (by kernel_rfl)) (fun _ _ _ h => h) (Or.inl ⟨by rfl, ?_⟩) ?_ ?_
           rotate_left
           ·intro w'
            go_simp
            with_reducible rfl
           rotate_left
           ·simp only [Act.put, sAa, sBb, sCc, i64_w, i32_w]
            rfl
           refine pure_ (i := 2) (N := some 49) (v := ?_) (a' := ?_) #[true, true, true, false, false, false, false, false, false, false, false, false, false, false, false, false, false, false, false, false, false, false, false, false, false, false] rfl rfl (any_of HT_.out (by kernel_rfl)) (fun _ _ _ h => h) (Or.inl ⟨by rfl, ?_⟩) ?_ ?_
           rotate_left
           ·intro w'
            go_simp
            with_reducible rfl
           rotate_left
           ·simp only [Act.put, sAa, sBb, sCc, i64_w, i32_w]
            rfl
           refine take_ (i := 3) (N := some 50) (v := ?_) (a' := ?_) #[true, true, true, true, false, false, false, false, false, false, false, false, false, false, false, false, false, false, false, false, false, false, false, false, false, false] rfl rfl (take_ofW HT_.out HW_.out (by kernel_rfl)) (fun _ _ _ h => h) (Or.inl ⟨by rfl, ?_⟩) hHeld ?_ ?_
           rotate_left
           ·rintro w' ⟨s0, s1, s2, s3, s4, s5, s6, s7, s8, s9, s10, s11, s12, s13, s14⟩
            go_simp
            with_reducible rfl
           rotate_left
           ·simp only [Act.put, sAa, sBb, sCc, i64_w, i32_w]
            rfl
           refine pure_ (i := 4) (N := some 51) (v := ?_) (a' := ?_) #[true, true, true, true, true, false, false, false, false, false, false, false, false, false, false, false, false, false, false, false, false, false, false, false, false, false] rfl rfl (any_of HT_.out (by kernel_rfl)) (fun _ _ _ h => h) (Or.inl ⟨by rfl, ?_⟩) ?_ ?_
           rotate_left
           ·intro w'
            go_simp
            with_reducible rfl
           rotate_left
           ·simp only [Act.put, sAa, sBb, sCc, i64_w, i32_w]
            rfl
           refine pure_ (i := 5) (N := some 52) (v := ?_) (a' := ?_) #[true, true, true, true, true, true, false, false, false, false, false, false, false, false, false, false, false, false, false, false, false, false, false, false, false, false] rfl rfl (any_of HT_.out (by kernel_rfl)) (fun _ _ _ h => h) (Or.inl ⟨by rfl, ?_⟩) ?_ ?_
           rotate_left
           ·intro w'
            go_simp
            with_reducible rfl
           rotate_left
           ·simp only [Act.put, sAa, sBb, sCc, i64_w, i32_w]
            rfl
           refine pure_ (i := 6) (N := some 53) (v := ?_) (a' := ?_) #[true, true, true, true, true, true, true, false, false, false, false, false, false, false, false, false, false, false, false, false, false, false, false, false, false, false] rfl rfl (any_of HT_.out (by kernel_rfl)) (fun _ _ _ h => h) (Or.inl ⟨by rfl, ?_⟩) ?_ ?_
           rotate_left
           ·intro w'
            go_simp
            with_reducible rfl
           rotate_left
           ·simp only [Act.put, sAa, sBb, sCc, i64_w, i32_w]
            rfl
           refine pure_ (i := 7) (N := some 54) (v := ?_) (a' := ?_) #[true, true, true, true, true, true, true, true, false, false, false, false, false, false, false, false, false, false, false, false, false, false, false, false, false, false] rfl rfl (any_of HT_.out (by kernel_rfl)) (fun _ _ _ h => h) (Or.inl ⟨by rfl, ?_⟩) ?_ ?_
           rotate_left
           ·intro w'
            go_simp
            with_reducible rfl
           rotate_left
           ·simp only [Act.put, sAa, sBb, sCc, i64_w, i32_w]
            rfl
           refine pure_ (i := 8) (N := some 55) (v := ?_) (a' := ?_) #[true, true, true, true, true, true, true, true, true, false, false, false, false, false, false, false, false, false, false, false, false, false, false, false, false, false] rfl rfl (any_of HT_.out (by kernel_rfl)) (fun _ _ _ h => h) (Or.inl ⟨by rfl, ?_⟩) ?_ ?_
           rotate_left
           ·intro w'
            go_simp
            with_reducible rfl
           rotate_left
           ·simp only [Act.put, sAa, sBb, sCc, i64_w, i32_w]
            rfl
           refine pure_ (i := 10) (N := some 57) (v := ?_) (a' := ?_) #[true, true, true, true, true, true, true, true, true, false, true, false, false, false, false, false, false, false, false, false, false, false, false, false, false, false] rfl rfl (any_of HT_.out (by kernel_rfl)) (fun _ _ _ h => h) (Or.inl ⟨by rfl, ?_⟩) ?_ ?_
           rotate_left
           ·intro w'
            go_simp
            with_reducible rfl
           rotate_left
           ·simp only [Act.put, sAa, sBb, sCc, i64_w, i32_w]
            rfl
           refine take_ (i := 9) (N := some 56) (v := ?_) (a' := ?_) #[true, true, true, true, true, true, true, true, true, true, true, false, false, false, false, false, false, false, false, false, false, false, false, false, false, false] rfl rfl (take_ofW HT_.out HW_.out (by kernel_rfl)) (fun _ _ _ h => h) (Or.inl ⟨by rfl, ?_⟩) hHeld ?_ ?_
           rotate_left
           ·rintro w' ⟨s0, s1, s2, s3, s4, s5, s6, s7, s8, s9, s10, s11, s12, s13, s14⟩
            go_simp
            with_reducible rfl
           rotate_left
           ·simp only [Act.put, sAa, sBb, sCc, i64_w, i32_w]
            rfl
           refine take_ (i := 11) (N := some 58) (v := ?_) (a' := ?_) #[true, true, true, true, true, true, true, true, true, true, true, true, false, false, false, false, false, false, false, false, false, false, false, false, false, false] rfl rfl (take_ofW HT_.out HW_.out (by kernel_rfl)) (fun _ _ _ h => h) (Or.inl ⟨by rfl, ?_⟩) hHeld ?_ ?_
           rotate_left
           ·rintro w' ⟨s0, s1, s2, s3, s4, s5, s6, s7, s8, s9, s10, s11, s12, s13, s14⟩
            go_simp
            with_reducible rfl
           rotate_left
           ·simp only [Act.put, sAa, sBb, sCc, i64_w, i32_w]
            rfl
           refine pure_ (i := 12) (N := some 59) (v := ?_) (a' := ?_) #[true, true, true, true, true, true, true, true, true, true, true, true, true, false, false, false, false, false, false, false, false, false, false, false, false, false] rfl rfl (any_of HT_.out (by kernel_rfl)) (fun _ _ _ h => h) (Or.inl ⟨by rfl, ?_⟩) ?_ ?_
           rotate_left
           ·intro w'
            go_simp
            with_reducible rfl
           rotate_left
           ·simp only [Act.put, sAa, sBb, sCc, i64_w, i32_w]
            rfl
           refine pure_ (i := 13) (N := some 60) (v := ?_) (a' := ?_) #[true, true, true, true, true, true, true, true, true, true, true, true, true, true, false, false, false, false, false, false, false, false, false, false, false, false] rfl rfl (any_of HT_.out (by kernel_rfl)) (fun _ _ _ h => h) (Or.inl ⟨by rfl, ?_⟩) ?_ ?_
           rotate_left
           ·intro w'
            go_simp
            with_reducible rfl
           rotate_left
           ·simp only [Act.put, sAa, sBb, sCc, i64_w, i32_w]
            rfl
           refine pure_ (i := 14) (N := some 61) (v := ?_) (a' := ?_) #[true, true, true, true, true, true, true, true, true, true, true, true, true, true, true, false, false, false, false, false, false, false, false, false, false, false] rfl rfl (any_of HT_.out (by kernel_rfl)) (fun _ _ _ h => h) (Or.inl ⟨by rfl, ?_⟩) ?_ ?_
           rotate_left
           ·intro w'
            go_simp
            with_reducible rfl
           rotate_left
           ·simp only [Act.put, sAa, sBb, sCc, i64_w, i32_w]
            rfl
           refine pure_ (i := 15) (N := some 62) (v := ?_) (a' := ?_) #[true, true, true, true, true, true, true, true, true, true, true, true, true, true, true, true, false, false, false, false, false, false, false, false, false, false] rfl rfl (any_of HT_.out (by kernel_rfl)) (fun _ _ _ h => h) (Or.inl ⟨by rfl, ?_⟩) ?_ ?_
           rotate_left
           ·intro w'
            go_simp
            with_reducible rfl
           rotate_left
           ·simp only [Act.put, sAa, sBb, sCc, i64_w, i32_w]
            rfl
           refine pure_ (i := 16) (N := some 63) (v := undef) (a' := ?_) #[true, true, true, true, true, true, true, true, true, true, true, true, true, true, true, true, true, false, false, false, false, false, false, false, false, false] rfl rfl (any_of HT_.out (by kernel_rfl)) (fun _ _ _ h => h) (Or.inr ⟨by rfl, rfl⟩) ?_ ?_
           rotate_left
           ·simp only [Act.put, sAa, sBb, sCc, i64_w, i32_w]
            rfl
           refine pure_ (i := 17) (N := some 64) (v := undef) (a' := ?_) #[true, true, true, true, true, true, true, true, true, true, true, true, true, true, true, true, true, true, false, false, false, false, false, false, false, false] rfl rfl (any_of HT_.out (by kernel_rfl)) (fun _ _ _ h => h) (Or.inr ⟨by rfl, rfl⟩) ?_ ?_
           rotate_left
           ·simp only [Act.put, sAa, sBb, sCc, i64_w, i32_w]
            rfl
           refine pure_ (i := 18) (N := some 65) (v := undef) (a' := ?_) #[true, true, true, true, true, true, true, true, true, true, true, true, true, true, true, true, true, true, true, false, false, false, false, false, false, false] rfl rfl (any_of HT_.out (by kernel_rfl)) (fun _ _ _ h => h) (Or.inr ⟨by rfl, rfl⟩) ?_ ?_
           rotate_left
           ·simp only [Act.put, sAa, sBb, sCc, i64_w, i32_w]
            rfl
           refine pure_ (i := 19) (N := some 66) (v := undef) (a' := ?_) #[true, true, true, true, true, true, true, true, true, true, true, true, true, true, true, true, true, true, true, true, false, false, false, false, false, false] rfl rfl (any_of HT_.out (by kernel_rfl)) (fun _ _ _ h => h) (Or.inr ⟨by rfl, rfl⟩) ?_ ?_
           rotate_left
           ·simp only [Act.put, sAa, sBb, sCc, i64_w, i32_w]
            rfl
           refine pure_ (i := 20) (N := some 67) (v := undef) (a' := ?_) #[true, true, true, true, true, true, true, true, true, true, true, true, true, true, true, true, true, true, true, true, true, false, false, false, false, false] rfl rfl (any_of HT_.out (by kernel_rfl)) (fun _ _ _ h => h) (Or.inr ⟨by rfl, rfl⟩) ?_ ?_
           rotate_left
           ·simp only [Act.put, sAa, sBb, sCc, i64_w, i32_w]
            rfl
           refine pure_ (i := 21) (N := some 68) (v := undef) (a' := ?_) #[true, true, true, true, true, true, true, true, true, true, true, true, true, true, true, true, true, true, true, true, true, true, false, false, false, false] rfl rfl (any_of HT_.out (by kernel_rfl)) (fun _ _ _ h => h) (Or.inr ⟨by rfl, rfl⟩) ?_ ?_
           rotate_left
           ·simp only [Act.put, sAa, sBb, sCc, i64_w, i32_w]
            rfl
           refine pure_ (i := 22) (N := some 69) (v := undef) (a' := ?_) #[true, true, true, true, true, true, true, true, true, true, true, true, true, true, true, true, true, true, true, true, true, true, true, false, false, false] rfl rfl (any_of HT_.out (by kernel_rfl)) (fun _ _ _ h => h) (Or.inr ⟨by rfl, rfl⟩) ?_ ?_
           rotate_left
           ·simp only [Act.put, sAa, sBb, sCc, i64_w, i32_w]
            rfl
           refine pure_ (i := 23) (N := some 70) (v := undef) (a' := ?_) #[true, true, true, true, true, true, true, true, true, true, true, true, true, true, true, true, true, true, true, true, true, true, true, true, false, false] rfl rfl (any_of HT_.out (by kernel_rfl)) (fun _ _ _ h => h) (Or.inr ⟨by rfl, rfl⟩) ?_ ?_
           rotate_left
           ·simp only [Act.put, sAa, sBb, sCc, i64_w, i32_w]
            rfl
           refine pure_ (i := 24) (N := some 71) (v := undef) (a' := ?_) #[true, true, true, true, true, true, true, true, true, true, true, true, true, true, true, true, true, true, true, true, true, true, true, true, true, false] rfl rfl (any_of HT_.out (by kernel_rfl)) (fun _ _ _ h => h) (Or.inr ⟨by rfl, rfl⟩) ?_ ?_
           rotate_left
           ·simp only [Act.put, sAa, sBb, sCc, i64_w, i32_w]
            rfl
           refine pure_ (i := 25) (N := some 72) (v := ?_) (a' := ?_) #[true, true, true, true, true, true, true, true, true, true, true, true, true, true, true, true, true, true, true, true, true, true, true, true, true, true] rfl rfl (any_of HT_.out (by kernel_rfl)) (fun _ _ _ h => h) (Or.inl ⟨by rfl, ?_⟩) ?_ ?_
           rotate_left
           ·intro w'
            go_simp
            with_reducible rfl
           rotate_left
           ·simp only [Act.put, sAa, sBb, sCc, i64_w, i32_w]
            rfl
           refine done_ (done_of HT_.out (by kernel_rfl)) ?_
           try go_wp2
           go_meet
           case rel => exact ⟨_, (true), (by first | rfl | (simp; done) | (simp [*]; done) | (have := TNA.out; unfold wrap64; congr 1; omega) | (unfold wrap64; omega)), H', ⟨by have := HK1.out; first | omega | exact Nat.le_refl _⟩, ⟨by (with_reducible repeat (first | apply Kd.R_alloc | apply Kd.R_drewN | apply Kd.R_drew)); exact HO_10.out⟩, ⟨by (with_reducible repeat (first | apply Kd.R_alloc | apply Kd.R_drewN | apply Kd.R_drew)); exact HO_378000.out⟩, ⟨by (with_reducible repeat (first | apply Kd.R_alloc | apply Kd.R_drewN | apply Kd.R_drew)); exact HO_378001.out⟩, ⟨by (with_reducible repeat (first | refine blk_drewN ?_ _ | refine blk_drew ?_ | refine blk_alloc ?_ _)); exact BK377.out⟩, ⟨by repeat (first | (with_reducible first | exact HB.out | apply below_alloc | apply pw_below_drewN | apply below_drew1 | refine below_set ?_ GE377.out) | exact HB.out)⟩⟩
          ·rw [if_neg c29] at H
           have c29b0 : decide ((t363.length : Int) ≤ (rd t378 x11_1)) = false := decide_eq_false c29
           clear c29
           replace H := Option.bind_eq_some_iff.mp H
           obtain ⟨t384, A310, H⟩ := H
           replace H : (drumlinelaw6_HopsSteps.j1 k1 x8_1 (Int.tmod (wrap64 (a2)) (t360.length : Int)) t378 x11_1 (t384 != (rd t378 x11_1)) t360 t363 t366 t367 t368 t369 t370 t371 t372 t373 t374 t375 t376) = some r := H
           have A31 := Aside0.mk A310
           clear A310
           have H' := Aside0.mk H
           clear H
           try go_wp2
           have n0_ := Aside0.mk (Kd.R_drew HO_10.out)
           have n1_ := Aside0.mk (Kd.R_drew HO_378000.out)
           have n2_ := Aside0.mk (Kd.R_drew HO_378001.out)
           have n3_ := Aside0.mk (blk_drew BK377.out)
           have n4_ := Aside0.mk (below_drew1 HB.out)
           clear HO_10
           clear HO_378000
           clear HO_378001
           clear BK377
           clear HB
           have HO_10 := n0_
           have HO_378000 := n1_
           have HO_378001 := n2_
           have BK377 := n3_
           have HB := n4_
           clear n0_ n1_ n2_ n3_ n4_
           have p382 : 0 ≤ (x11_1 : Int) := of_decide_eq_true (by first | (with_reducible assumption) | assumption)
           have q382 : x11_1 < (t378.length : Int) := of_decide_eq_true (by first | (with_reducible assumption) | assumption)
           obtain ⟨ad382, e382, hx382_0⟩ := Kd.at_int (Kd.R_reads' HO_10.out).2.2 x11_1 p382 q382
           cases e382
           replace p382 := eq_true p382
           replace q382 := eq_true q382
           have p383 : 0 ≤ (x11_1 : Int) := of_decide_eq_true (by first | (with_reducible assumption) | assumption)
           have q383 : x11_1 < (t378.length : Int) := of_decide_eq_true (by first | (with_reducible assumption) | assumption)
           obtain ⟨ad383, e383, hx383_0⟩ := Kd.at_int (Kd.R_reads' HO_10.out).2.2 x11_1 p383 q383
           obtain rfl : ad382 = ad383 := (by injection e383)
           replace p383 := eq_true p383
           replace q383 := eq_true q383
           have p385 : 0 ≤ (x11_1 : Int) := of_decide_eq_true (by first | (with_reducible assumption) | assumption)
           have q385 : x11_1 < (t378.length : Int) := of_decide_eq_true (by first | (with_reducible assumption) | assumption)
           obtain ⟨ad385, e385, hx385_0⟩ := Kd.at_int (Kd.R_reads' HO_10.out).2.2 x11_1 p385 q385
           obtain rfl : ad382 = ad385 := (by injection e385)
           replace p385 := eq_true p385
           replace q385 := eq_true q385
           refine start_ (n := 26) (S := fun w' => w'.cell? ⟨gb377, 0, none⟩ = some (.slice Ao14 t360.length co14) ∧ w'.cell? ⟨gb377, 1, none⟩ = some (.slice Ao16 t363.length co16) ∧ w'.cell? ⟨gb377, 2, none⟩ = some (.int .i64 t366) ∧ w'.cell? ⟨gb377, 3, none⟩ = some (.int .i64 t367) ∧ w'.cell? ⟨gb377, 4, none⟩ = some (.int .i64 t368) ∧ w'.cell? ⟨gb377, 5, none⟩ = some (.int .i64 t369) ∧ w'.cell? ⟨gb377, 6, none⟩ = some (.int .i64 t370) ∧ w'.cell? ⟨gb377, 7, none⟩ = some (.int .i64 t371) ∧ w'.cell? ⟨gb377, 8, none⟩ = some (.int .i64 t372) ∧ w'.cell? ⟨gb377, 9, none⟩ = some (.int .i64 t373) ∧ w'.cell? ⟨gb377, 10, none⟩ = some (.int .i64 t374) ∧ w'.cell? ⟨gb377, 11, none⟩ = some (.int .i64 t375) ∧ w'.cell? ⟨gb377, 12, none⟩ = some (.int .i64 t376) ∧ w'.cell? (ad382.add (x11_1).toNat) = some (.int .i64 (rd t378 x11_1)) ∧ w'.cell? (ad382.add (x11_1).toNat) = some (.int .i64 (rd t378 x11_1)) ∧ w'.cell? (ad382.add (x11_1).toNat) = some (.int .i64 (rd t378 x11_1))) (ds := []) #[false, false, false, false, false, false, false, false, false, false, false, false, false, false, false, false, false, false, false, false, false, false, false, false, false, false] (by kernel_rfl) rfl rfl ⟨(blk_cell BK377.out 0).trans rfl, (blk_cell BK377.out 1).trans rfl, (blk_cell BK377.out 2).trans rfl, (blk_cell BK377.out 3).trans rfl, (blk_cell BK377.out 4).trans rfl, (blk_cell BK377.out 5).trans rfl, (blk_cell BK377.out 6).trans rfl, (blk_cell BK377.out 7).trans rfl, (blk_cell BK377.out 8).trans rfl, (blk_cell BK377.out 9).trans rfl, (blk_cell BK377.out 10).trans rfl, (blk_cell BK377.out 11).trans rfl, (blk_cell BK377.out 12).trans rfl, hx382_0, hx383_0, hx385_0⟩ (fun hHeld => ?_); refine with_tabW drumlinelaw6_HopsSteps.tab11 drumlinelaw6_HopsSteps.bits11 (fun HT_ HW_ => ?_)
           generalize wr.drew = w32 at HO_10 HO_378000 HO_378001 BK377 HB hx382_0 hx383_0 hx385_0 hHeld ⊢
           refine pure_ (i := 0) (N := some 47) (v := ?_) (a' := ?_) #[true, false, false, false, false, false, false, false, false, false, false, false, false, false, false, false, false, false, false, false, false, false, false, false, false, false] rfl rfl (any_of HT_.out (by kernel_rfl)) (fun _ _ _ h => h) (Or.inl ⟨by rfl, ?_⟩) ?_ ?_
           rotate_left
           ·intro w'
            go_simp
            with_reducible rfl
           rotate_left
           ·simp only [Act.put, sAa, sBb, sCc, i64_w, i32_w]
            rfl
           refine pure_ (i := 1) (N := some 48) (v := ?_) (a' := ?_) #[true, true, false, false, false, false, false, false, false, false, false, false, false, false, false, false, false, false, false, false, false, false, false, false, false, false] rfl rfl (any_of HT_.out (by kernel_rfl)) (fun _ _ _ h => h) (Or.inl ⟨by rfl, ?_⟩) ?_ ?_
           rotate_left
           ·intro w'
            go_simp
            with_reducible rfl
           rotate_left
           ·simp only [Act.put, sAa, sBb, sCc, i64_w, i32_w]
            rfl
           refine pure_ (i := 2) (N := some 49) (v := ?_) (a' := ?_) #[true, true, true, false, false, false, false, false, false, false, false, false, false, false, false, false, false, false, false, false, false, false, false, false, false, false] rfl rfl (any_of HT_.out (by kernel_rfl)) (fun _ _ _ h => h) (Or.inl ⟨by rfl, ?_⟩) ?_ ?_
           rotate_left
           ·intro w'
            go_simp
            with_reducible rfl
           rotate_left
           ·simp only [Act.put, sAa, sBb, sCc, i64_w, i32_w]
            rfl
           refine take_ (i := 3) (N := some 50) (v := ?_) (a' := ?_) #[true, true, true, true, false, false, false, false, false, false, false, false, false, false, false, false, false, false, false, false, false, false, false, false, false, false] rfl rfl (take_ofW HT_.out HW_.out (by kernel_rfl)) (fun _ _ _ h => h) (Or.inl ⟨by rfl, ?_⟩) hHeld ?_ ?_
           rotate_left
           ·rintro w' ⟨s0, s1, s2, s3, s4, s5, s6, s7, s8, s9, s10, s11, s12, s13, s14, s15⟩
            go_simp
            with_reducible rfl
           rotate_left
           ·simp only [Act.put, sAa, sBb, sCc, i64_w, i32_w]
            rfl
           refine pure_ (i := 4) (N := some 51) (v := ?_) (a' := ?_) #[true, true, true, true, true, false, false, false, false, false, false, false, false, false, false, false, false, false, false, false, false, false, false, false, false, false] rfl rfl (any_of HT_.out (by kernel_rfl)) (fun _ _ _ h => h) (Or.inl ⟨by rfl, ?_⟩) ?_ ?_
           rotate_left
           ·intro w'
            go_simp
            with_reducible rfl
           rotate_left
           ·simp only [Act.put, sAa, sBb, sCc, i64_w, i32_w]
            rfl
           refine pure_ (i := 5) (N := some 52) (v := ?_) (a' := ?_) #[true, true, true, true, true, true, false, false, false, false, false, false, false, false, false, false, false, false, false, false, false, false, false, false, false, false] rfl rfl (any_of HT_.out (by kernel_rfl)) (fun _ _ _ h => h) (Or.inl ⟨by rfl, ?_⟩) ?_ ?_
           rotate_left
           ·intro w'
            go_simp
            with_reducible rfl
           rotate_left
           ·simp only [Act.put, sAa, sBb, sCc, i64_w, i32_w]
            rfl
           refine pure_ (i := 6) (N := some 53) (v := ?_) (a' := ?_) #[true, true, true, true, true, true, true, false, false, false, false, false, false, false, false, false, false, false, false, false, false, false, false, false, false, false] rfl rfl (any_of HT_.out (by kernel_rfl)) (fun _ _ _ h => h) (Or.inl ⟨by rfl, ?_⟩) ?_ ?_
           rotate_left
           ·intro w'
            go_simp
            with_reducible rfl
           rotate_left
           ·simp only [Act.put, sAa, sBb, sCc, i64_w, i32_w]
            rfl
           refine pure_ (i := 7) (N := some 54) (v := ?_) (a' := ?_) #[true, true, true, true, true, true, true, true, false, false, false, false, false, false, false, false, false, false, false, false, false, false, false, false, false, false] rfl rfl (any_of HT_.out (by kernel_rfl)) (fun _ _ _ h => h) (Or.inl ⟨by rfl, ?_⟩) ?_ ?_
           rotate_left
           ·intro w'
            go_simp
            with_reducible rfl
           rotate_left
           ·simp only [Act.put, sAa, sBb, sCc, i64_w, i32_w]
            rfl
           refine pure_ (i := 8) (N := some 55) (v := ?_) (a' := ?_) #[true, true, true, true, true, true, true, true, true, false, false, false, false, false, false, false, false, false, false, false, false, false, false, false, false, false] rfl rfl (any_of HT_.out (by kernel_rfl)) (fun _ _ _ h => h) (Or.inl ⟨by rfl, ?_⟩) ?_ ?_
           rotate_left
           ·intro w'
            go_simp
            with_reducible rfl
           rotate_left
           ·simp only [Act.put, sAa, sBb, sCc, i64_w, i32_w]
            rfl
           refine pure_ (i := 10) (N := some 57) (v := ?_) (a' := ?_) #[true, true, true, true, true, true, true, true, true, false, true, false, false, false, false, false, false, false, false, false, false, false, false, false, false, false] rfl rfl (any_of HT_.out (by kernel_rfl)) (fun _ _ _ h => h) (Or.inl ⟨by rfl, ?_⟩) ?_ ?_
           rotate_left
           ·intro w'
            go_simp
            with_reducible rfl
           rotate_left
           ·simp only [Act.put, sAa, sBb, sCc, i64_w, i32_w]
            rfl
           refine take_ (i := 9) (N := some 56) (v := ?_) (a' := ?_) #[true, true, true, true, true, true, true, true, true, true, true, false, false, false, false, false, false, false, false, false, false, false, false, false, false, false] rfl rfl (take_ofW HT_.out HW_.out (by kernel_rfl)) (fun _ _ _ h => h) (Or.inl ⟨by rfl, ?_⟩) hHeld ?_ ?_
           rotate_left
           ·rintro w' ⟨s0, s1, s2, s3, s4, s5, s6, s7, s8, s9, s10, s11, s12, s13, s14, s15⟩
            go_simp
            with_reducible rfl
           rotate_left
           ·simp only [Act.put, sAa, sBb, sCc, i64_w, i32_w]
            rfl
           refine take_ (i := 11) (N := some 58) (v := ?_) (a' := ?_) #[true, true, true, true, true, true, true, true, true, true, true, true, false, false, false, false, false, false, false, false, false, false, false, false, false, false] rfl rfl (take_ofW HT_.out HW_.out (by kernel_rfl)) (fun _ _ _ h => h) (Or.inl ⟨by rfl, ?_⟩) hHeld ?_ ?_
           rotate_left
           ·rintro w' ⟨s0, s1, s2, s3, s4, s5, s6, s7, s8, s9, s10, s11, s12, s13, s14, s15⟩
            go_simp
            with_reducible rfl
           rotate_left
           ·simp only [Act.put, sAa, sBb, sCc, i64_w, i32_w]
            rfl
           refine pure_ (i := 12) (N := some 59) (v := ?_) (a' := ?_) #[true, true, true, true, true, true, true, true, true, true, true, true, true, false, false, false, false, false, false, false, false, false, false, false, false, false] rfl rfl (any_of HT_.out (by kernel_rfl)) (fun _ _ _ h => h) (Or.inl ⟨by rfl, ?_⟩) ?_ ?_
           rotate_left
           ·intro w'
            go_simp
            with_reducible rfl
           rotate_left
           ·simp only [Act.put, sAa, sBb, sCc, i64_w, i32_w]
            rfl
           refine pure_ (i := 13) (N := some 60) (v := ?_) (a' := ?_) #[true, true, true, true, true, true, true, true, true, true, true, true, true, true, false, false, false, false, false, false, false, false, false, false, false, false] rfl rfl (any_of HT_.out (by kernel_rfl)) (fun _ _ _ h => h) (Or.inl ⟨by rfl, ?_⟩) ?_ ?_
           rotate_left
           ·intro w'
            go_simp
            with_reducible rfl
           rotate_left
           ·simp only [Act.put, sAa, sBb, sCc, i64_w, i32_w]
            rfl
           refine pure_ (i := 14) (N := some 61) (v := ?_) (a' := ?_) #[true, true, true, true, true, true, true, true, true, true, true, true, true, true, true, false, false, false, false, false, false, false, false, false, false, false] rfl rfl (any_of HT_.out (by kernel_rfl)) (fun _ _ _ h => h) (Or.inl ⟨by rfl, ?_⟩) ?_ ?_
           rotate_left
           ·intro w'
            go_simp
            with_reducible rfl
           rotate_left
           ·simp only [Act.put, sAa, sBb, sCc, i64_w, i32_w]
            rfl
           refine pure_ (i := 15) (N := some 62) (v := ?_) (a' := ?_) #[true, true, true, true, true, true, true, true, true, true, true, true, true, true, true, true, false, false, false, false, false, false, false, false, false, false] rfl rfl (any_of HT_.out (by kernel_rfl)) (fun _ _ _ h => h) (Or.inl ⟨by rfl, ?_⟩) ?_ ?_
           rotate_left
           ·intro w'
            go_simp
            with_reducible rfl
           rotate_left
           ·simp only [Act.put, sAa, sBb, sCc, i64_w, i32_w]
            rfl
           refine pure_ (i := 17) (N := some 64) (v := ?_) (a' := ?_) #[true, true, true, true, true, true, true, true, true, true, true, true, true, true, true, true, false, true, false, false, false, false, false, false, false, false] rfl rfl (any_of HT_.out (by kernel_rfl)) (fun _ _ _ h => h) (Or.inl ⟨by rfl, ?_⟩) ?_ ?_
           rotate_left
           ·intro w'
            go_simp
            with_reducible rfl
           rotate_left
           ·simp only [Act.put, sAa, sBb, sCc, i64_w, i32_w]
            rfl
           refine pure_ (i := 18) (N := some 65) (v := ?_) (a' := ?_) #[true, true, true, true, true, true, true, true, true, true, true, true, true, true, true, true, false, true, true, false, false, false, false, false, false, false] rfl rfl (any_of HT_.out (by kernel_rfl)) (fun _ _ _ h => h) (Or.inl ⟨by rfl, ?_⟩) ?_ ?_
           rotate_left
           ·intro w'
            go_simp
            with_reducible rfl
           rotate_left
           ·simp only [Act.put, sAa, sBb, sCc, i64_w, i32_w]
            rfl
           refine pure_ (i := 20) (N := some 67) (v := ?_) (a' := ?_) #[true, true, true, true, true, true, true, true, true, true, true, true, true, true, true, true, false, true, true, false, true, false, false, false, false, false] rfl rfl (any_of HT_.out (by kernel_rfl)) (fun _ _ _ h => h) (Or.inl ⟨by rfl, ?_⟩) ?_ ?_
           rotate_left
           ·intro w'
            go_simp
            with_reducible rfl
           rotate_left
           ·simp only [Act.put, sAa, sBb, sCc, i64_w, i32_w]
            rfl
           refine pure_ (i := 21) (N := some 68) (v := ?_) (a' := ?_) #[true, true, true, true, true, true, true, true, true, true, true, true, true, true, true, true, false, true, true, false, true, true, false, false, false, false] rfl rfl (any_of HT_.out (by kernel_rfl)) (fun _ _ _ h => h) (Or.inl ⟨by rfl, ?_⟩) ?_ ?_
           rotate_left
           ·intro w'
            go_simp
            with_reducible rfl
           rotate_left
           ·simp only [Act.put, sAa, sBb, sCc, i64_w, i32_w]
            rfl
           refine pure_ (i := 22) (N := some 69) (v := ?_) (a' := ?_) #[true, true, true, true, true, true, true, true, true, true, true, true, true, true, true, true, false, true, true, false, true, true, true, false, false, false] rfl rfl (any_of HT_.out (by kernel_rfl)) (fun _ _ _ h => h) (Or.inl ⟨by rfl, ?_⟩) ?_ ?_
           rotate_left
           ·intro w'
            go_simp
            with_reducible rfl
           rotate_left
           ·simp only [Act.put, sAa, sBb, sCc, i64_w, i32_w]
            rfl
           refine take_ (i := 16) (N := some 63) (v := ?_) (a' := ?_) #[true, true, true, true, true, true, true, true, true, true, true, true, true, true, true, true, true, true, true, false, true, true, true, false, false, false] rfl rfl (take_ofW HT_.out HW_.out (by kernel_rfl)) (fun _ _ _ h => h) (Or.inl ⟨by rfl, ?_⟩) hHeld ?_ ?_
           rotate_left
           ·rintro w' ⟨s0, s1, s2, s3, s4, s5, s6, s7, s8, s9, s10, s11, s12, s13, s14, s15⟩
            go_simp
            with_reducible rfl
           rotate_left
           ·simp only [Act.put, sAa, sBb, sCc, i64_w, i32_w]
            rfl
           refine take_ (i := 23) (N := some 70) (v := ?_) (a' := ?_) #[true, true, true, true, true, true, true, true, true, true, true, true, true, true, true, true, true, true, true, false, true, true, true, true, false, false] rfl rfl (take_ofW HT_.out HW_.out (by kernel_rfl)) (fun _ _ _ h => h) (Or.inl ⟨by rfl, ?_⟩) hHeld ?_ ?_
           rotate_left
           ·rintro w' ⟨s0, s1, s2, s3, s4, s5, s6, s7, s8, s9, s10, s11, s12, s13, s14, s15⟩
            go_simp
            with_reducible rfl
           rotate_left
           ·simp only [Act.put, sAa, sBb, sCc, i64_w, i32_w]
            rfl
           refine one_ (i := 19) (N := some 66) #[true, true, true, true, true, true, true, true, true, true, true, true, true, true, true, true, true, true, true, true, true, true, true, true, false, false] rfl rfl (one_of HT_.out (by kernel_rfl)) (by decide) (fun K hK => ?_)
           refine goes_ Tryd.func13 (by kernel_rfl) rfl #[.agg #[.slice Ao14 t360.length co14, .slice Ao16 t363.length co16, .int .i64 t366, .int .i64 t367, .int .i64 t368, .int .i64 t369, .int .i64 t370, .int .i64 t371, .int .i64 t372, .int .i64 t373, .int .i64 t374, .int .i64 t375, .int .i64 t376], .int .i64 x8_1, .int .i64 (Int.tmod (wrap64 (a2)) (t360.length : Int))] (by rfl) rfl rfl (by (try simp only [List.map_toArray, List.map_cons, List.map_nil]); first | done | rfl | (simp only [List.length_drop, List.length_take]; rfl)) ?_
           with_reducible refine (hops_Next.calls _ _ t360 _ _ t363 t366 t367 t368 t369 t370 t371 t372 t373 t374 t375 t376 x8_1 (Int.tmod (wrap64 (a2)) (t360.length : Int)) t384 _ ?side1 ?side2 ?side3 ?side4 A31.out).mono ?_
           (case side1 => repeat (first | exact (Kd.R_reads' HO_378000.out).2.2 | (with_reducible refine Kd.C_alloc ?_ _) | (with_reducible refine Kd.C_drewN ?_ _) | (with_reducible refine Kd.C_drew ?_)))
           (case side2 => exact (Kd.R_reads' HO_378000.out).2.1)
           (case side3 => repeat (first | exact (Kd.R_reads' HO_378001.out).2.2 | (with_reducible refine Kd.C_alloc ?_ _) | (with_reducible refine Kd.C_drewN ?_ _) | (with_reducible refine Kd.C_drew ?_)))
           (case side4 => exact (Kd.R_reads' HO_378001.out).2.1)
           rintro e w33 ⟨rfl, hb⟩
           have HS13_ := (hb.cell (World.block_lt_of_cell? _ _ (hHeld.2.2.2.2.2.2.2.2.2.2.2.2.2.1))).trans (hHeld.2.2.2.2.2.2.2.2.2.2.2.2.2.1)
           have HS14_ := (hb.cell (World.block_lt_of_cell? _ _ (hHeld.2.2.2.2.2.2.2.2.2.2.2.2.2.2.1))).trans (hHeld.2.2.2.2.2.2.2.2.2.2.2.2.2.2.1)
           have HS15_ := (hb.cell (World.block_lt_of_cell? _ _ (hHeld.2.2.2.2.2.2.2.2.2.2.2.2.2.2.2))).trans (hHeld.2.2.2.2.2.2.2.2.2.2.2.2.2.2.2)
           refine ⟨_, rfl, ?_⟩
           have n0_ := Aside0.mk (Kd.R_below (by (with_reducible repeat (first | apply Kd.R_alloc | apply Kd.R_drewN | apply Kd.R_drew)); exact HO_10.out) hb)
           have n1_ := Aside0.mk (Kd.R_below (by (with_reducible repeat (first | apply Kd.R_alloc | apply Kd.R_drewN | apply Kd.R_drew)); exact HO_378000.out) hb)
           have n2_ := Aside0.mk (Kd.R_below (by (with_reducible repeat (first | apply Kd.R_alloc | apply Kd.R_drewN | apply Kd.R_drew)); exact HO_378001.out) hb)
           have n3_ := Aside0.mk (blk_below (g := gb377) (o := .cells #[.slice Ao14 t360.length co14, .slice Ao16 t363.length co16, .int .i64 t366, .int .i64 t367, .int .i64 t368, .int .i64 t369, .int .i64 t370, .int .i64 t371, .int .i64 t372, .int .i64 t373, .int .i64 t374, .int .i64 t375, .int .i64 t376] 25 (0, 0)) (by (with_reducible repeat (first | refine blk_drewN ?_ _ | refine blk_drew ?_ | refine blk_alloc ?_ _)); exact BK377.out) hb)
           have n4_ := Aside0.mk (below_step (by repeat (first | (with_reducible first | exact HB.out | apply below_alloc | apply pw_below_drewN | apply below_drew1 | refine below_set ?_ GE377.out) | exact HB.out)) hb)
           clear HO_10
           clear HO_378000
           clear HO_378001
           clear BK377
           clear HB
           have HO_10 := n0_
           have HO_378000 := n1_
           have HO_378001 := n2_
           have BK377 := n3_
           have HB := n4_
           clear n0_ n1_ n2_ n3_ n4_
           (try clear hb)
           (try clear hb2)
           (try clear hk)
           (try clear hi)
           refine hK.out _ _ ⟨(blk_cell BK377.out 0).trans rfl, (blk_cell BK377.out 1).trans rfl, (blk_cell BK377.out 2).trans rfl, (blk_cell BK377.out 3).trans rfl, (blk_cell BK377.out 4).trans rfl, (blk_cell BK377.out 5).trans rfl, (blk_cell BK377.out 6).trans rfl, (blk_cell BK377.out 7).trans rfl, (blk_cell BK377.out 8).trans rfl, (blk_cell BK377.out 9).trans rfl, (blk_cell BK377.out 10).trans rfl, (blk_cell BK377.out 11).trans rfl, (blk_cell BK377.out 12).trans rfl, HS13_, HS14_, HS15_⟩ (fun hHeld => ?_)
           clear hK K
           refine norm_ (a' := ?_) ?_ ?_
           rotate_left
           ·show Act.put _ (some 66) _ = _
            simp only [Act.put, sAa, sBb, sCc, i64_w, i32_w]
            rfl
           refine pure_ (i := 24) (N := some 71) (v := ?_) (a' := ?_) #[true, true, true, true, true, true, true, true, true, true, true, true, true, true, true, true, true, true, true, true, true, true, true, true, true, false] rfl rfl (any_of HT_.out (by kernel_rfl)) (fun _ _ _ h => h) (Or.inl ⟨by rfl, ?_⟩) ?_ ?_
           rotate_left
           ·intro w'
            go_simp
            with_reducible rfl
           rotate_left
           ·simp only [Act.put, sAa, sBb, sCc, i64_w, i32_w]
            rfl
           refine pure_ (i := 25) (N := some 72) (v := ?_) (a' := ?_) #[true, true, true, true, true, true, true, true, true, true, true, true, true, true, true, true, true, true, true, true, true, true, true, true, true, true] rfl rfl (any_of HT_.out (by kernel_rfl)) (fun _ _ _ h => h) (Or.inl ⟨by rfl, ?_⟩) ?_ ?_
           rotate_left
           ·intro w'
            go_simp
            with_reducible rfl
           rotate_left
           ·simp only [Act.put, sAa, sBb, sCc, i64_w, i32_w]
            rfl
           refine done_ (done_of HT_.out (by kernel_rfl)) ?_
           try go_wp2
           go_meet
           case rel => exact ⟨_, ((t384 != (rd t378 x11_1))), (by first | rfl | (simp; done) | (simp [*]; done) | (have := TNA.out; unfold wrap64; congr 1; omega) | (unfold wrap64; omega)), H', ⟨by have := HK1.out; first | omega | exact Nat.le_refl _⟩, ⟨by (with_reducible repeat (first | apply Kd.R_alloc | apply Kd.R_drewN | apply Kd.R_drew)); exact HO_10.out⟩, ⟨by (with_reducible repeat (first | apply Kd.R_alloc | apply Kd.R_drewN | apply Kd.R_drew)); exact HO_378000.out⟩, ⟨by (with_reducible repeat (first | apply Kd.R_alloc | apply Kd.R_drewN | apply Kd.R_drew)); exact HO_378001.out⟩, ⟨by (with_reducible repeat (first | refine blk_drewN ?_ _ | refine blk_drew ?_ | refine blk_alloc ?_ _)); exact BK377.out⟩, ⟨by repeat (first | (with_reducible first | exact HB.out | apply below_alloc | apply pw_below_drewN | apply below_drew1 | refine below_set ?_ GE377.out) | exact HB.out)⟩⟩
        ·rw [if_neg c26] at H
         exact absurd H (by simp)
       case rest =>
        clear HC25
        try clear c1
        try clear c2
        try clear p2
        try clear p3
        try clear q3
        try clear hx3
        try clear p6
        try clear c13
        try clear c26
        try clear c27
        try clear c27b0
        try clear c29
        try clear c29b0
        try clear hx382_0
        try clear hx383_0
        try clear hx385_0
        try clear p382
        try clear p383
        try clear p385
        try clear q382
        try clear q383
        try clear q385
        obtain ⟨kq, x72_24, rfl, HA, HJ24, HO_10, HO_378000, HO_378001, BK377, HB⟩ := hcut
        cases kq with
        | zero => exact absurd HA.out (by simp [drumlinelaw6_HopsSteps.j1])
        | succ kj24 =>
         have H := HA.out
         clear HA
         simp only [drumlinelaw6_HopsSteps.j1] at H
         by_cases c34 : x72_24 = true
         ·subst c34
          have H1 : (some false) = some r := by rw [if_pos rfl] at H; exact H
          clear H
          have H := H1
          clear H1
          obtain rfl := Option.some.inj H
          go_wp2
          go_ret
          exact ⟨by first | rfl | (simp [errW_none, errW_some] <;> rfl) | (simp [*, errW_none, errW_some] <;> rfl), by repeat (first | (with_reducible first | exact HB.out | apply below_alloc | apply pw_below_drewN | apply below_drew1 | refine below_set ?_ GE377.out) | exact HB.out)⟩
         ·replace c34 := Bool.eq_false_iff.mpr c34
          subst c34
          have H1 : (if 0 ≤ x11_1 then (if x11_1 < (t378.length : Int) then (if 0 ≤ (rd t378 x11_1) then (if (rd t378 x11_1) < (t363.length : Int) then (if ((rd_T37 t363 (rd t378 x11_1)).f0) = x8_1 then (drumlinelaw6_HopsSteps.j2 kj24 x8_1 (Int.tmod (wrap64 (a2)) (t360.length : Int)) t378 x11_1 false t360 t363 t366 t367 t368 t369 t370 t371 t372 t373 t374 t375 t376 ((rd_T37 t363 (rd t378 x11_1)).f0) ((rd_T37 t363 (rd t378 x11_1)).f1) ((rd_T37 t363 (rd t378 x11_1)).f2.f0) ((rd_T37 t363 (rd t378 x11_1)).f2.f1) ((rd_T37 t363 (rd t378 x11_1)).f3.f0) ((rd_T37 t363 (rd t378 x11_1)).f3.f1)) else (drumlinelaw6_HopsSteps.j2 kj24 x8_1 (Int.tmod (wrap64 (a2)) (t360.length : Int)) t378 x11_1 (((rd_T37 t363 (rd t378 x11_1)).f1) != x8_1) t360 t363 t366 t367 t368 t369 t370 t371 t372 t373 t374 t375 t376 ((rd_T37 t363 (rd t378 x11_1)).f0) ((rd_T37 t363 (rd t378 x11_1)).f1) ((rd_T37 t363 (rd t378 x11_1)).f2.f0) ((rd_T37 t363 (rd t378 x11_1)).f2.f1) ((rd_T37 t363 (rd t378 x11_1)).f3.f0) ((rd_T37 t363 (rd t378 x11_1)).f3.f1))) else (none)) else (none)) else (none)) else (none)) = some r := by rw [if_neg (show ¬ (false = true) by decide)] at H; exact H
          clear H
          have H := H1
          clear H1
          by_cases c35 : 0 ≤ x11_1
          ·rw [if_pos c35] at H
           have c35b0 : decide (0 ≤ x11_1) = true := decide_eq_true c35
           clear c35
           by_cases c36 : x11_1 < (t378.length : Int)
           ·rw [if_pos c36] at H
            have c36b0 : decide (x11_1 < (t378.length : Int)) = true := decide_eq_true c36
            clear c36
            by_cases c37 : 0 ≤ (rd t378 x11_1)
            ·rw [if_pos c37] at H
             have c37b0 : decide (0 ≤ (rd t378 x11_1)) = true := decide_eq_true c37
             clear c37
             by_cases c38 : (rd t378 x11_1) < (t363.length : Int)
             ·rw [if_pos c38] at H
              have c38b0 : decide ((rd t378 x11_1) < (t363.length : Int)) = true := decide_eq_true c38
              clear c38
              have HC39 := Aside0.mk H
              clear H
              try go_wp2
              have n0_ := Aside0.mk (Kd.R_drew HO_10.out)
              have n1_ := Aside0.mk (Kd.R_drew HO_378000.out)
              have n2_ := Aside0.mk (Kd.R_drew HO_378001.out)
              have n3_ := Aside0.mk (blk_drew BK377.out)
              have n4_ := Aside0.mk (below_drew1 HB.out)
              clear HO_10
              clear HO_378000
              clear HO_378001
              clear BK377
              clear HB
              have HO_10 := n0_
              have HO_378000 := n1_
              have HO_378001 := n2_
              have BK377 := n3_
              have HB := n4_
              clear n0_ n1_ n2_ n3_ n4_
              have p386 : 0 ≤ (x11_1 : Int) := of_decide_eq_true (by first | (with_reducible assumption) | assumption)
              have q386 : x11_1 < (t378.length : Int) := of_decide_eq_true (by first | (with_reducible assumption) | assumption)
              obtain ⟨ad386, e386, hx386_0⟩ := Kd.at_int (Kd.R_reads' HO_10.out).2.2 x11_1 p386 q386
              cases e386
              replace p386 := eq_true p386
              replace q386 := eq_true q386
              have p387 : 0 ≤ ((rd t378 x11_1) : Int) := of_decide_eq_true (by first | (with_reducible assumption) | assumption)
              have q387 : (rd t378 x11_1) < (t363.length : Int) := of_decide_eq_true (by first | (with_reducible assumption) | assumption)
              obtain ⟨ad387, e387, hx387_0, hx387_1, hx387_2, hx387_3, hx387_4, hx387_5⟩ := at_T37 (Kd.R_reads' HO_378001.out).2.2 (rd t378 x11_1) p387 q387
              cases e387
              replace p387 := eq_true p387
              replace q387 := eq_true q387
              refine start_ (n := 10) (S := fun w' => w'.cell? ⟨gb377, 0, none⟩ = some (.slice Ao14 t360.length co14) ∧ w'.cell? ⟨gb377, 1, none⟩ = some (.slice (some ad387) t363.length co16) ∧ w'.cell? ⟨gb377, 2, none⟩ = some (.int .i64 t366) ∧ w'.cell? ⟨gb377, 3, none⟩ = some (.int .i64 t367) ∧ w'.cell? ⟨gb377, 4, none⟩ = some (.int .i64 t368) ∧ w'.cell? ⟨gb377, 5, none⟩ = some (.int .i64 t369) ∧ w'.cell? ⟨gb377, 6, none⟩ = some (.int .i64 t370) ∧ w'.cell? ⟨gb377, 7, none⟩ = some (.int .i64 t371) ∧ w'.cell? ⟨gb377, 8, none⟩ = some (.int .i64 t372) ∧ w'.cell? ⟨gb377, 9, none⟩ = some (.int .i64 t373) ∧ w'.cell? ⟨gb377, 10, none⟩ = some (.int .i64 t374) ∧ w'.cell? ⟨gb377, 11, none⟩ = some (.int .i64 t375) ∧ w'.cell? ⟨gb377, 12, none⟩ = some (.int .i64 t376) ∧ w'.cell? (ad386.add (x11_1).toNat) = some (.int .i64 (rd t378 x11_1)) ∧ w'.cell? (ad387.add (((rd t378 x11_1)).toNat * 6)) = some (.int .i64 ((rd_T37 t363 (rd t378 x11_1)).f0)) ∧ w'.cell? ⟨(ad387.add (((rd t378 x11_1)).toNat * 6)).block, (ad387.add (((rd t378 x11_1)).toNat * 6)).off + 1, none⟩ = some (.int .i64 ((rd_T37 t363 (rd t378 x11_1)).f1)) ∧ w'.cell? ⟨(ad387.add (((rd t378 x11_1)).toNat * 6)).block, (ad387.add (((rd t378 x11_1)).toNat * 6)).off + 2, none⟩ = some (.int .i64 ((rd_T37 t363 (rd t378 x11_1)).f2.f0)) ∧ w'.cell? ⟨(ad387.add (((rd t378 x11_1)).toNat * 6)).block, (ad387.add (((rd t378 x11_1)).toNat * 6)).off + 3, none⟩ = some (.int .i64 ((rd_T37 t363 (rd t378 x11_1)).f2.f1)) ∧ w'.cell? ⟨(ad387.add (((rd t378 x11_1)).toNat * 6)).block, (ad387.add (((rd t378 x11_1)).toNat * 6)).off + 4, none⟩ = some (.int .i64 ((rd_T37 t363 (rd t378 x11_1)).f3.f0)) ∧ w'.cell? ⟨(ad387.add (((rd t378 x11_1)).toNat * 6)).block, (ad387.add (((rd t378 x11_1)).toNat * 6)).off + 5, none⟩ = some (.int .i64 ((rd_T37 t363 (rd t378 x11_1)).f3.f1))) (ds := []) #[false, false, false, false, false, false, false, false, false, false] (by kernel_rfl) rfl rfl ⟨(blk_cell BK377.out 0).trans rfl, (blk_cell BK377.out 1).trans rfl, (blk_cell BK377.out 2).trans rfl, (blk_cell BK377.out 3).trans rfl, (blk_cell BK377.out 4).trans rfl, (blk_cell BK377.out 5).trans rfl, (blk_cell BK377.out 6).trans rfl, (blk_cell BK377.out 7).trans rfl, (blk_cell BK377.out 8).trans rfl, (blk_cell BK377.out 9).trans rfl, (blk_cell BK377.out 10).trans rfl, (blk_cell BK377.out 11).trans rfl, (blk_cell BK377.out 12).trans rfl, hx386_0, hx387_0, hx387_1, hx387_2, hx387_3, hx387_4, hx387_5⟩ (fun hHeld => ?_); refine with_tabW drumlinelaw6_HopsSteps.tab13 drumlinelaw6_HopsSteps.bits13 (fun HT_ HW_ => ?_)
              generalize wc.drew = w40 at HO_10 HO_378000 HO_378001 BK377 HB hx386_0 hx387_0 hx387_1 hx387_2 hx387_3 hx387_4 hx387_5 hHeld ⊢
              refine pure_ (i := 0) (N := some 73) (v := ?_) (a' := ?_) #[true, false, false, false, false, false, false, false, false, false] rfl rfl (any_of HT_.out (by kernel_rfl)) (fun _ _ _ h => h) (Or.inl ⟨by rfl, ?_⟩) ?_ ?_
              rotate_left
              ·intro w'
               go_simp
               with_reducible rfl
              rotate_left
              ·simp only [Act.put, sAa, sBb, sCc, i64_w, i32_w]
               rfl
              refine pure_ (i := 2) (N := some 75) (v := ?_) (a' := ?_) #[true, false, true, false, false, false, false, false, false, false] rfl rfl (any_of HT_.out (by kernel_rfl)) (fun _ _ _ h => h) (Or.inl ⟨by rfl, ?_⟩) ?_ ?_
              rotate_left
              ·intro w'
               go_simp
               with_reducible rfl
              rotate_left
              ·simp only [Act.put, sAa, sBb, sCc, i64_w, i32_w]
               rfl
              refine pure_ (i := 3) (N := some 76) (v := ?_) (a' := ?_) #[true, false, true, true, false, false, false, false, false, false] rfl rfl (any_of HT_.out (by kernel_rfl)) (fun _ _ _ h => h) (Or.inl ⟨by rfl, ?_⟩) ?_ ?_
              rotate_left
              ·intro w'
               go_simp
               with_reducible rfl
              rotate_left
              ·simp only [Act.put, sAa, sBb, sCc, i64_w, i32_w]
               rfl
              refine pure_ (i := 4) (N := some 77) (v := ?_) (a' := ?_) #[true, false, true, true, true, false, false, false, false, false] rfl rfl (any_of HT_.out (by kernel_rfl)) (fun _ _ _ h => h) (Or.inl ⟨by rfl, ?_⟩) ?_ ?_
              rotate_left
              ·intro w'
               go_simp
               with_reducible rfl
              rotate_left
              ·simp only [Act.put, sAa, sBb, sCc, i64_w, i32_w]
               rfl
              refine take_ (i := 1) (N := some 74) (v := ?_) (a' := ?_) #[true, true, true, true, true, false, false, false, false, false] rfl rfl (take_ofW HT_.out HW_.out (by kernel_rfl)) (fun _ _ _ h => h) (Or.inl ⟨by rfl, ?_⟩) hHeld ?_ ?_
              rotate_left
              ·rintro w' ⟨s0, s1, s2, s3, s4, s5, s6, s7, s8, s9, s10, s11, s12, s13, s14, s15, s16, s17, s18, s19⟩
               go_simp
               with_reducible rfl
              rotate_left
              ·simp only [Act.put, sAa, sBb, sCc, i64_w, i32_w]
               rfl
              refine take_ (i := 5) (N := some 78) (v := ?_) (a' := ?_) #[true, true, true, true, true, true, false, false, false, false] rfl rfl (take_ofW HT_.out HW_.out (by kernel_rfl)) (fun _ _ _ h => h) (Or.inl ⟨by rfl, ?_⟩) hHeld ?_ ?_
              rotate_left
              ·rintro w' ⟨s0, s1, s2, s3, s4, s5, s6, s7, s8, s9, s10, s11, s12, s13, s14, s15, s16, s17, s18, s19⟩
               go_simp
               with_reducible rfl
              rotate_left
              ·simp only [Act.put, sAa, sBb, sCc, i64_w, i32_w]
               rfl
              refine pure_ (i := 6) (N := some 79) (v := ?_) (a' := ?_) #[true, true, true, true, true, true, true, false, false, false] rfl rfl (any_of HT_.out (by kernel_rfl)) (fun _ _ _ h => h) (Or.inl ⟨by rfl, ?_⟩) ?_ ?_
              rotate_left
              ·intro w'
               go_simp
               with_reducible rfl
              rotate_left
              ·simp only [Act.put, sAa, sBb, sCc, i64_w, i32_w]
               rfl
              refine take_ (i := 7) (N := some 80) (v := ?_) (a' := ?_) #[true, true, true, true, true, true, true, true, false, false] rfl rfl (take_ofW HT_.out HW_.out (by kernel_rfl)) (fun _ _ _ h => h) (Or.inl ⟨by rfl, ?_⟩) hHeld ?_ ?_
              rotate_left
              ·rintro w' ⟨s0, s1, s2, s3, s4, s5, s6, s7, s8, s9, s10, s11, s12, s13, s14, s15, s16, s17, s18, s19⟩
               go_simp
               with_reducible rfl
              rotate_left
              ·simp only [Act.put, sAa, sBb, sCc, i64_w, i32_w]
               rfl
              refine one_ (i := 8) (N := some 12) #[true, true, true, true, true, true, true, true, true, false] rfl rfl (one_of HT_.out (by kernel_rfl)) (by decide) (fun K hK => ?_)
              refine box_step ?hg (N := 12) ?hd (cs := #[.int .i64 0, .int .i64 0, .int .i64 0, .int .i64 0, .int .i64 0, .int .i64 0]) (t := 37) ?hr ?_; (case hd => rfl); (case hg => rfl); (case hr => first | (go_simp; done) | (go_simp; rfl))
              intro gb388 hg w41 hbox hb
              have HS13_ := (hb.cell (World.block_lt_of_cell? _ _ (hHeld.2.2.2.2.2.2.2.2.2.2.2.2.2.1))).trans (hHeld.2.2.2.2.2.2.2.2.2.2.2.2.2.1)
              have HS14_ := (hb.cell (World.block_lt_of_cell? _ _ (hHeld.2.2.2.2.2.2.2.2.2.2.2.2.2.2.1))).trans (hHeld.2.2.2.2.2.2.2.2.2.2.2.2.2.2.1)
              have HS15_ := (hb.cell (World.block_lt_of_cell? _ _ (hHeld.2.2.2.2.2.2.2.2.2.2.2.2.2.2.2.1))).trans (hHeld.2.2.2.2.2.2.2.2.2.2.2.2.2.2.2.1)
              have HS16_ := (hb.cell (World.block_lt_of_cell? _ _ (hHeld.2.2.2.2.2.2.2.2.2.2.2.2.2.2.2.2.1))).trans (hHeld.2.2.2.2.2.2.2.2.2.2.2.2.2.2.2.2.1)
              have HS17_ := (hb.cell (World.block_lt_of_cell? _ _ (hHeld.2.2.2.2.2.2.2.2.2.2.2.2.2.2.2.2.2.1))).trans (hHeld.2.2.2.2.2.2.2.2.2.2.2.2.2.2.2.2.2.1)
              have HS18_ := (hb.cell (World.block_lt_of_cell? _ _ (hHeld.2.2.2.2.2.2.2.2.2.2.2.2.2.2.2.2.2.2.1))).trans (hHeld.2.2.2.2.2.2.2.2.2.2.2.2.2.2.2.2.2.2.1)
              have HS19_ := (hb.cell (World.block_lt_of_cell? _ _ (hHeld.2.2.2.2.2.2.2.2.2.2.2.2.2.2.2.2.2.2.2))).trans (hHeld.2.2.2.2.2.2.2.2.2.2.2.2.2.2.2.2.2.2.2)
              have n0_ := Aside0.mk (Kd.R_below (by (with_reducible repeat (first | apply Kd.R_alloc | apply Kd.R_drewN | apply Kd.R_drew)); exact HO_10.out) hb)
              have n1_ := Aside0.mk (Kd.R_below (by (with_reducible repeat (first | apply Kd.R_alloc | apply Kd.R_drewN | apply Kd.R_drew)); exact HO_378000.out) hb)
              have n2_ := Aside0.mk (Kd.R_below (Kd.R_elderB (by (with_reducible repeat (first | apply Kd.R_alloc | apply Kd.R_drewN | apply Kd.R_drew)); exact HO_378001.out) gb388 (Nat.le_of_eq hg.symm)) hb)
              have n3_ := Aside0.mk (blk_below (g := gb377) (o := .cells #[.slice Ao14 t360.length co14, .slice (some ad387) t363.length co16, .int .i64 t366, .int .i64 t367, .int .i64 t368, .int .i64 t369, .int .i64 t370, .int .i64 t371, .int .i64 t372, .int .i64 t373, .int .i64 t374, .int .i64 t375, .int .i64 t376] 25 (0, 0)) (by (with_reducible repeat (first | refine blk_drewN ?_ _ | refine blk_drew ?_ | refine blk_alloc ?_ _)); exact BK377.out) hb)
              have n4_ := Aside0.mk (below_step (by repeat (first | (with_reducible first | exact HB.out | apply below_alloc | apply pw_below_drewN | apply below_drew1 | refine below_set ?_ GE377.out) | exact HB.out)) hb)
              have n5_ := Aside0.mk (hbox)
              have n6_ := Aside0.mk ((by rw [hg]; exact (below_size (by repeat (first | (with_reducible first | exact HB.out | apply below_alloc | apply pw_below_drewN | apply below_drew1 | refine below_set ?_ GE377.out) | exact HB.out))) : w.heap.size ≤ gb388))
              have n7_ := Aside0.mk ((by rw [hg]; exact (below_size (by repeat (first | (with_reducible first | exact HB.out | apply below_alloc | apply pw_below_drewN | apply below_drew1 | refine below_set ?_ GE377.out) | exact HB.out))) : w.heap.size ≤ gb388))
              have n8_ := Aside0.mk ((by rw [hg]; exact Nat.ne_of_lt (blk_lt (g := gb377) (o := .cells #[.slice Ao14 t360.length co14, .slice (some ad387) t363.length co16, .int .i64 t366, .int .i64 t367, .int .i64 t368, .int .i64 t369, .int .i64 t370, .int .i64 t371, .int .i64 t372, .int .i64 t373, .int .i64 t374, .int .i64 t375, .int .i64 t376] 25 (0, 0)) (by (with_reducible repeat (first | refine blk_drewN ?_ _ | refine blk_drew ?_ | refine blk_alloc ?_ _)); exact BK377.out)) : gb377 ≠ gb388))
              have n9_ := Aside0.mk ((by rw [hg]; exact Nat.ne_of_gt (blk_lt (g := gb377) (o := .cells #[.slice Ao14 t360.length co14, .slice (some ad387) t363.length co16, .int .i64 t366, .int .i64 t367, .int .i64 t368, .int .i64 t369, .int .i64 t370, .int .i64 t371, .int .i64 t372, .int .i64 t373, .int .i64 t374, .int .i64 t375, .int .i64 t376] 25 (0, 0)) (by (with_reducible repeat (first | refine blk_drewN ?_ _ | refine blk_drew ?_ | refine blk_alloc ?_ _)); exact BK377.out)) : gb388 ≠ gb377))
              clear HO_10
              clear HO_378000
              clear HO_378001
              clear BK377
              clear HB
              have HO_10 := n0_
              have HO_378000 := n1_
              have HO_378001 := n2_
              have BK377 := n3_
              have HB := n4_
              have BK388 := n5_
              have GW388 := n6_
              have GE388 := n7_
              have NB377_388 := n8_
              have NB388_377 := n9_
              clear n0_ n1_ n2_ n3_ n4_ n5_ n6_ n7_ n8_ n9_
              clear hb hbox hg
              refine hK.out _ _ ⟨(blk_cell BK377.out 0).trans rfl, (blk_cell BK377.out 1).trans rfl, (blk_cell BK377.out 2).trans rfl, (blk_cell BK377.out 3).trans rfl, (blk_cell BK377.out 4).trans rfl, (blk_cell BK377.out 5).trans rfl, (blk_cell BK377.out 6).trans rfl, (blk_cell BK377.out 7).trans rfl, (blk_cell BK377.out 8).trans rfl, (blk_cell BK377.out 9).trans rfl, (blk_cell BK377.out 10).trans rfl, (blk_cell BK377.out 11).trans rfl, (blk_cell BK377.out 12).trans rfl, HS13_, HS14_, HS15_, HS16_, HS17_, HS18_, HS19_⟩ (fun hHeld => ?_)
              clear hK K
              refine norm_ (a' := ?_) ?_ ?_
              rotate_left
              ·show Act.put _ (some 12) _ = _
               simp only [Act.put, sAa, sBb, sCc, i64_w, i32_w]
               rfl
              refine one_ (i := 9) (N := none) #[true, true, true, true, true, true, true, true, true, true] rfl rfl (one_of HT_.out (by kernel_rfl)) (by decide) (fun K hK => ?_)
              have hs42 : w41.cell? ⟨gb388, 0, none⟩ = some (.int .i64 0) := (blk_cell BK388.out 0).trans rfl
              have hfs42 := blk_frozen BK388.out 0
              have hns42_0 := NB377_388.out
              have hms42_0 := NB388_377.out
              have hs43 : w41.cell? ⟨gb388, 1, none⟩ = some (.int .i64 0) := (blk_cell BK388.out 1).trans rfl
              have hfs43 := blk_frozen BK388.out 1
              have hns43_0 := NB377_388.out
              have hms43_0 := NB388_377.out
              have hs44 : w41.cell? ⟨gb388, 2, none⟩ = some (.int .i64 0) := (blk_cell BK388.out 2).trans rfl
              have hfs44 := blk_frozen BK388.out 2
              have hns44_0 := NB377_388.out
              have hms44_0 := NB388_377.out
              have hs45 : w41.cell? ⟨gb388, 3, none⟩ = some (.int .i64 0) := (blk_cell BK388.out 3).trans rfl
              have hfs45 := blk_frozen BK388.out 3
              have hns45_0 := NB377_388.out
              have hms45_0 := NB388_377.out
              have hs46 : w41.cell? ⟨gb388, 4, none⟩ = some (.int .i64 0) := (blk_cell BK388.out 4).trans rfl
              have hfs46 := blk_frozen BK388.out 4
              have hns46_0 := NB377_388.out
              have hms46_0 := NB388_377.out
              have hs47 : w41.cell? ⟨gb388, 5, none⟩ = some (.int .i64 0) := (blk_cell BK388.out 5).trans rfl
              have hfs47 := blk_frozen BK388.out 5
              have hns47_0 := NB377_388.out
              have hms47_0 := NB388_377.out
              refine skip_ (w1 := ?_) (by rfl) rfl ?_ ?_
              rotate_left
              ·go_simp
               rfl
              refine hK.out _ _ ⟨((cell_far (p := ⟨gb388, _, none⟩) NB377_388.out _).trans (((cell_far (p := ⟨gb388, _, none⟩) NB377_388.out _).trans (((cell_far (p := ⟨gb388, _, none⟩) NB377_388.out _).trans (((cell_far (p := ⟨gb388, _, none⟩) NB377_388.out _).trans (((cell_far (p := ⟨gb388, _, none⟩) NB377_388.out _).trans (((cell_far (p := ⟨gb388, _, none⟩) NB377_388.out _).trans (hHeld.1)))))))))))), ((cell_far (p := ⟨gb388, _, none⟩) NB377_388.out _).trans (((cell_far (p := ⟨gb388, _, none⟩) NB377_388.out _).trans (((cell_far (p := ⟨gb388, _, none⟩) NB377_388.out _).trans (((cell_far (p := ⟨gb388, _, none⟩) NB377_388.out _).trans (((cell_far (p := ⟨gb388, _, none⟩) NB377_388.out _).trans (((cell_far (p := ⟨gb388, _, none⟩) NB377_388.out _).trans (hHeld.2.1)))))))))))), ((cell_far (p := ⟨gb388, _, none⟩) NB377_388.out _).trans (((cell_far (p := ⟨gb388, _, none⟩) NB377_388.out _).trans (((cell_far (p := ⟨gb388, _, none⟩) NB377_388.out _).trans (((cell_far (p := ⟨gb388, _, none⟩) NB377_388.out _).trans (((cell_far (p := ⟨gb388, _, none⟩) NB377_388.out _).trans (((cell_far (p := ⟨gb388, _, none⟩) NB377_388.out _).trans (hHeld.2.2.1)))))))))))), ((cell_far (p := ⟨gb388, _, none⟩) NB377_388.out _).trans (((cell_far (p := ⟨gb388, _, none⟩) NB377_388.out _).trans (((cell_far (p := ⟨gb388, _, none⟩) NB377_388.out _).trans (((cell_far (p := ⟨gb388, _, none⟩) NB377_388.out _).trans (((cell_far (p := ⟨gb388, _, none⟩) NB377_388.out _).trans (((cell_far (p := ⟨gb388, _, none⟩) NB377_388.out _).trans (hHeld.2.2.2.1)))))))))))), ((cell_far (p := ⟨gb388, _, none⟩) NB377_388.out _).trans (((cell_far (p := ⟨gb388, _, none⟩) NB377_388.out _).trans (((cell_far (p := ⟨gb388, _, none⟩) NB377_388.out _).trans (((cell_far (p := ⟨gb388, _, none⟩) NB377_388.out _).trans (((cell_far (p := ⟨gb388, _, none⟩) NB377_388.out _).trans (((cell_far (p := ⟨gb388, _, none⟩) NB377_388.out _).trans (hHeld.2.2.2.2.1)))))))))))), ((cell_far (p := ⟨gb388, _, none⟩) NB377_388.out _).trans (((cell_far (p := ⟨gb388, _, none⟩) NB377_388.out _).trans (((cell_far (p := ⟨gb388, _, none⟩) NB377_388.out _).trans (((cell_far (p := ⟨gb388, _, none⟩) NB377_388.out _).trans (((cell_far (p := ⟨gb388, _, none⟩) NB377_388.out _).trans (((cell_far (p := ⟨gb388, _, none⟩) NB377_388.out _).trans (hHeld.2.2.2.2.2.1)))))))))))), ((cell_far (p := ⟨gb388, _, none⟩) NB377_388.out _).trans (((cell_far (p := ⟨gb388, _, none⟩) NB377_388.out _).trans (((cell_far (p := ⟨gb388, _, none⟩) NB377_388.out _).trans (((cell_far (p := ⟨gb388, _, none⟩) NB377_388.out _).trans (((cell_far (p := ⟨gb388, _, none⟩) NB377_388.out _).trans (((cell_far (p := ⟨gb388, _, none⟩) NB377_388.out _).trans (hHeld.2.2.2.2.2.2.1)))))))))))), ((cell_far (p := ⟨gb388, _, none⟩) NB377_388.out _).trans (((cell_far (p := ⟨gb388, _, none⟩) NB377_388.out _).trans (((cell_far (p := ⟨gb388, _, none⟩) NB377_388.out _).trans (((cell_far (p := ⟨gb388, _, none⟩) NB377_388.out _).trans (((cell_far (p := ⟨gb388, _, none⟩) NB377_388.out _).trans (((cell_far (p := ⟨gb388, _, none⟩) NB377_388.out _).trans (hHeld.2.2.2.2.2.2.2.1)))))))))))), ((cell_far (p := ⟨gb388, _, none⟩) NB377_388.out _).trans (((cell_far (p := ⟨gb388, _, none⟩) NB377_388.out _).trans (((cell_far (p := ⟨gb388, _, none⟩) NB377_388.out _).trans (((cell_far (p := ⟨gb388, _, none⟩) NB377_388.out _).trans (((cell_far (p := ⟨gb388, _, none⟩) NB377_388.out _).trans (((cell_far (p := ⟨gb388, _, none⟩) NB377_388.out _).trans (hHeld.2.2.2.2.2.2.2.2.1)))))))))))), ((cell_far (p := ⟨gb388, _, none⟩) NB377_388.out _).trans (((cell_far (p := ⟨gb388, _, none⟩) NB377_388.out _).trans (((cell_far (p := ⟨gb388, _, none⟩) NB377_388.out _).trans (((cell_far (p := ⟨gb388, _, none⟩) NB377_388.out _).trans (((cell_far (p := ⟨gb388, _, none⟩) NB377_388.out _).trans (((cell_far (p := ⟨gb388, _, none⟩) NB377_388.out _).trans (hHeld.2.2.2.2.2.2.2.2.2.1)))))))))))), ((cell_far (p := ⟨gb388, _, none⟩) NB377_388.out _).trans (((cell_far (p := ⟨gb388, _, none⟩) NB377_388.out _).trans (((cell_far (p := ⟨gb388, _, none⟩) NB377_388.out _).trans (((cell_far (p := ⟨gb388, _, none⟩) NB377_388.out _).trans (((cell_far (p := ⟨gb388, _, none⟩) NB377_388.out _).trans (((cell_far (p := ⟨gb388, _, none⟩) NB377_388.out _).trans (hHeld.2.2.2.2.2.2.2.2.2.2.1)))))))))))), ((cell_far (p := ⟨gb388, _, none⟩) NB377_388.out _).trans (((cell_far (p := ⟨gb388, _, none⟩) NB377_388.out _).trans (((cell_far (p := ⟨gb388, _, none⟩) NB377_388.out _).trans (((cell_far (p := ⟨gb388, _, none⟩) NB377_388.out _).trans (((cell_far (p := ⟨gb388, _, none⟩) NB377_388.out _).trans (((cell_far (p := ⟨gb388, _, none⟩) NB377_388.out _).trans (hHeld.2.2.2.2.2.2.2.2.2.2.2.1)))))))))))), ((cell_far (p := ⟨gb388, _, none⟩) NB377_388.out _).trans (((cell_far (p := ⟨gb388, _, none⟩) NB377_388.out _).trans (((cell_far (p := ⟨gb388, _, none⟩) NB377_388.out _).trans (((cell_far (p := ⟨gb388, _, none⟩) NB377_388.out _).trans (((cell_far (p := ⟨gb388, _, none⟩) NB377_388.out _).trans (((cell_far (p := ⟨gb388, _, none⟩) NB377_388.out _).trans (hHeld.2.2.2.2.2.2.2.2.2.2.2.2.1)))))))))))), ((cell_far (p := ⟨gb388, _, none⟩) (by first | exact Kd.own_blk (Kd.R_ne HO_10.out BK388.out (by decide)) | (rw [add_block]; exact Kd.own_blk (Kd.R_ne HO_10.out BK388.out (by decide))) | (show (Addr.add _ _).block ≠ _; rw [add_block]; exact Kd.own_blk (Kd.R_ne HO_10.out BK388.out (by decide))) | (dsimp only; exact Kd.own_blk (Kd.R_ne HO_10.out BK388.out (by decide)))) _).trans (((cell_far (p := ⟨gb388, _, none⟩) (by first | exact Kd.own_blk (Kd.R_ne HO_10.out BK388.out (by decide)) | (rw [add_block]; exact Kd.own_blk (Kd.R_ne HO_10.out BK388.out (by decide))) | (show (Addr.add _ _).block ≠ _; rw [add_block]; exact Kd.own_blk (Kd.R_ne HO_10.out BK388.out (by decide))) | (dsimp only; exact Kd.own_blk (Kd.R_ne HO_10.out BK388.out (by decide)))) _).trans (((cell_far (p := ⟨gb388, _, none⟩) (by first | exact Kd.own_blk (Kd.R_ne HO_10.out BK388.out (by decide)) | (rw [add_block]; exact Kd.own_blk (Kd.R_ne HO_10.out BK388.out (by decide))) | (show (Addr.add _ _).block ≠ _; rw [add_block]; exact Kd.own_blk (Kd.R_ne HO_10.out BK388.out (by decide))) | (dsimp only; exact Kd.own_blk (Kd.R_ne HO_10.out BK388.out (by decide)))) _).trans (((cell_far (p := ⟨gb388, _, none⟩) (by first | exact Kd.own_blk (Kd.R_ne HO_10.out BK388.out (by decide)) | (rw [add_block]; exact Kd.own_blk (Kd.R_ne HO_10.out BK388.out (by decide))) | (show (Addr.add _ _).block ≠ _; rw [add_block]; exact Kd.own_blk (Kd.R_ne HO_10.out BK388.out (by decide))) | (dsimp only; exact Kd.own_blk (Kd.R_ne HO_10.out BK388.out (by decide)))) _).trans (((cell_far (p := ⟨gb388, _, none⟩) (by first | exact Kd.own_blk (Kd.R_ne HO_10.out BK388.out (by decide)) | (rw [add_block]; exact Kd.own_blk (Kd.R_ne HO_10.out BK388.out (by decide))) | (show (Addr.add _ _).block ≠ _; rw [add_block]; exact Kd.own_blk (Kd.R_ne HO_10.out BK388.out (by decide))) | (dsimp only; exact Kd.own_blk (Kd.R_ne HO_10.out BK388.out (by decide)))) _).trans (((cell_far (p := ⟨gb388, _, none⟩) (by first | exact Kd.own_blk (Kd.R_ne HO_10.out BK388.out (by decide)) | (rw [add_block]; exact Kd.own_blk (Kd.R_ne HO_10.out BK388.out (by decide))) | (show (Addr.add _ _).block ≠ _; rw [add_block]; exact Kd.own_blk (Kd.R_ne HO_10.out BK388.out (by decide))) | (dsimp only; exact Kd.own_blk (Kd.R_ne HO_10.out BK388.out (by decide)))) _).trans (hHeld.2.2.2.2.2.2.2.2.2.2.2.2.2.1)))))))))))), ((cell_far (p := ⟨gb388, _, none⟩) (by first | exact Kd.own_blk (Kd.R_away HO_378001.out (fun _ hk => hk.2)) | (rw [add_block]; exact Kd.own_blk (Kd.R_away HO_378001.out (fun _ hk => hk.2))) | (show (Addr.add _ _).block ≠ _; rw [add_block]; exact Kd.own_blk (Kd.R_away HO_378001.out (fun _ hk => hk.2))) | (dsimp only; exact Kd.own_blk (Kd.R_away HO_378001.out (fun _ hk => hk.2)))) _).trans (((cell_far (p := ⟨gb388, _, none⟩) (by first | exact Kd.own_blk (Kd.R_away HO_378001.out (fun _ hk => hk.2)) | (rw [add_block]; exact Kd.own_blk (Kd.R_away HO_378001.out (fun _ hk => hk.2))) | (show (Addr.add _ _).block ≠ _; rw [add_block]; exact Kd.own_blk (Kd.R_away HO_378001.out (fun _ hk => hk.2))) | (dsimp only; exact Kd.own_blk (Kd.R_away HO_378001.out (fun _ hk => hk.2)))) _).trans (((cell_far (p := ⟨gb388, _, none⟩) (by first | exact Kd.own_blk (Kd.R_away HO_378001.out (fun _ hk => hk.2)) | (rw [add_block]; exact Kd.own_blk (Kd.R_away HO_378001.out (fun _ hk => hk.2))) | (show (Addr.add _ _).block ≠ _; rw [add_block]; exact Kd.own_blk (Kd.R_away HO_378001.out (fun _ hk => hk.2))) | (dsimp only; exact Kd.own_blk (Kd.R_away HO_378001.out (fun _ hk => hk.2)))) _).trans (((cell_far (p := ⟨gb388, _, none⟩) (by first | exact Kd.own_blk (Kd.R_away HO_378001.out (fun _ hk => hk.2)) | (rw [add_block]; exact Kd.own_blk (Kd.R_away HO_378001.out (fun _ hk => hk.2))) | (show (Addr.add _ _).block ≠ _; rw [add_block]; exact Kd.own_blk (Kd.R_away HO_378001.out (fun _ hk => hk.2))) | (dsimp only; exact Kd.own_blk (Kd.R_away HO_378001.out (fun _ hk => hk.2)))) _).trans (((cell_far (p := ⟨gb388, _, none⟩) (by first | exact Kd.own_blk (Kd.R_away HO_378001.out (fun _ hk => hk.2)) | (rw [add_block]; exact Kd.own_blk (Kd.R_away HO_378001.out (fun _ hk => hk.2))) | (show (Addr.add _ _).block ≠ _; rw [add_block]; exact Kd.own_blk (Kd.R_away HO_378001.out (fun _ hk => hk.2))) | (dsimp only; exact Kd.own_blk (Kd.R_away HO_378001.out (fun _ hk => hk.2)))) _).trans (((cell_far (p := ⟨gb388, _, none⟩) (by first | exact Kd.own_blk (Kd.R_away HO_378001.out (fun _ hk => hk.2)) | (rw [add_block]; exact Kd.own_blk (Kd.R_away HO_378001.out (fun _ hk => hk.2))) | (show (Addr.add _ _).block ≠ _; rw [add_block]; exact Kd.own_blk (Kd.R_away HO_378001.out (fun _ hk => hk.2))) | (dsimp only; exact Kd.own_blk (Kd.R_away HO_378001.out (fun _ hk => hk.2)))) _).trans (hHeld.2.2.2.2.2.2.2.2.2.2.2.2.2.2.1)))))))))))), ((cell_far (p := ⟨gb388, _, none⟩) (by first | exact Kd.own_blk (Kd.R_away HO_378001.out (fun _ hk => hk.2)) | (rw [add_block]; exact Kd.own_blk (Kd.R_away HO_378001.out (fun _ hk => hk.2))) | (show (Addr.add _ _).block ≠ _; rw [add_block]; exact Kd.own_blk (Kd.R_away HO_378001.out (fun _ hk => hk.2))) | (dsimp only; exact Kd.own_blk (Kd.R_away HO_378001.out (fun _ hk => hk.2)))) _).trans (((cell_far (p := ⟨gb388, _, none⟩) (by first | exact Kd.own_blk (Kd.R_away HO_378001.out (fun _ hk => hk.2)) | (rw [add_block]; exact Kd.own_blk (Kd.R_away HO_378001.out (fun _ hk => hk.2))) | (show (Addr.add _ _).block ≠ _; rw [add_block]; exact Kd.own_blk (Kd.R_away HO_378001.out (fun _ hk => hk.2))) | (dsimp only; exact Kd.own_blk (Kd.R_away HO_378001.out (fun _ hk => hk.2)))) _).trans (((cell_far (p := ⟨gb388, _, none⟩) (by first | exact Kd.own_blk (Kd.R_away HO_378001.out (fun _ hk => hk.2)) | (rw [add_block]; exact Kd.own_blk (Kd.R_away HO_378001.out (fun _ hk => hk.2))) | (show (Addr.add _ _).block ≠ _; rw [add_block]; exact Kd.own_blk (Kd.R_away HO_378001.out (fun _ hk => hk.2))) | (dsimp only; exact Kd.own_blk (Kd.R_away HO_378001.out (fun _ hk => hk.2)))) _).trans (((cell_far (p := ⟨gb388, _, none⟩) (by first | exact Kd.own_blk (Kd.R_away HO_378001.out (fun _ hk => hk.2)) | (rw [add_block]; exact Kd.own_blk (Kd.R_away HO_378001.out (fun _ hk => hk.2))) | (show (Addr.add _ _).block ≠ _; rw [add_block]; exact Kd.own_blk (Kd.R_away HO_378001.out (fun _ hk => hk.2))) | (dsimp only; exact Kd.own_blk (Kd.R_away HO_378001.out (fun _ hk => hk.2)))) _).trans (((cell_far (p := ⟨gb388, _, none⟩) (by first | exact Kd.own_blk (Kd.R_away HO_378001.out (fun _ hk => hk.2)) | (rw [add_block]; exact Kd.own_blk (Kd.R_away HO_378001.out (fun _ hk => hk.2))) | (show (Addr.add _ _).block ≠ _; rw [add_block]; exact Kd.own_blk (Kd.R_away HO_378001.out (fun _ hk => hk.2))) | (dsimp only; exact Kd.own_blk (Kd.R_away HO_378001.out (fun _ hk => hk.2)))) _).trans (((cell_far (p := ⟨gb388, _, none⟩) (by first | exact Kd.own_blk (Kd.R_away HO_378001.out (fun _ hk => hk.2)) | (rw [add_block]; exact Kd.own_blk (Kd.R_away HO_378001.out (fun _ hk => hk.2))) | (show (Addr.add _ _).block ≠ _; rw [add_block]; exact Kd.own_blk (Kd.R_away HO_378001.out (fun _ hk => hk.2))) | (dsimp only; exact Kd.own_blk (Kd.R_away HO_378001.out (fun _ hk => hk.2)))) _).trans (hHeld.2.2.2.2.2.2.2.2.2.2.2.2.2.2.2.1)))))))))))), ((cell_far (p := ⟨gb388, _, none⟩) (by first | exact Kd.own_blk (Kd.R_away HO_378001.out (fun _ hk => hk.2)) | (rw [add_block]; exact Kd.own_blk (Kd.R_away HO_378001.out (fun _ hk => hk.2))) | (show (Addr.add _ _).block ≠ _; rw [add_block]; exact Kd.own_blk (Kd.R_away HO_378001.out (fun _ hk => hk.2))) | (dsimp only; exact Kd.own_blk (Kd.R_away HO_378001.out (fun _ hk => hk.2)))) _).trans (((cell_far (p := ⟨gb388, _, none⟩) (by first | exact Kd.own_blk (Kd.R_away HO_378001.out (fun _ hk => hk.2)) | (rw [add_block]; exact Kd.own_blk (Kd.R_away HO_378001.out (fun _ hk => hk.2))) | (show (Addr.add _ _).block ≠ _; rw [add_block]; exact Kd.own_blk (Kd.R_away HO_378001.out (fun _ hk => hk.2))) | (dsimp only; exact Kd.own_blk (Kd.R_away HO_378001.out (fun _ hk => hk.2)))) _).trans (((cell_far (p := ⟨gb388, _, none⟩) (by first | exact Kd.own_blk (Kd.R_away HO_378001.out (fun _ hk => hk.2)) | (rw [add_block]; exact Kd.own_blk (Kd.R_away HO_378001.out (fun _ hk => hk.2))) | (show (Addr.add _ _).block ≠ _; rw [add_block]; exact Kd.own_blk (Kd.R_away HO_378001.out (fun _ hk => hk.2))) | (dsimp only; exact Kd.own_blk (Kd.R_away HO_378001.out (fun _ hk => hk.2)))) _).trans (((cell_far (p := ⟨gb388, _, none⟩) (by first | exact Kd.own_blk (Kd.R_away HO_378001.out (fun _ hk => hk.2)) | (rw [add_block]; exact Kd.own_blk (Kd.R_away HO_378001.out (fun _ hk => hk.2))) | (show (Addr.add _ _).block ≠ _; rw [add_block]; exact Kd.own_blk (Kd.R_away HO_378001.out (fun _ hk => hk.2))) | (dsimp only; exact Kd.own_blk (Kd.R_away HO_378001.out (fun _ hk => hk.2)))) _).trans (((cell_far (p := ⟨gb388, _, none⟩) (by first | exact Kd.own_blk (Kd.R_away HO_378001.out (fun _ hk => hk.2)) | (rw [add_block]; exact Kd.own_blk (Kd.R_away HO_378001.out (fun _ hk => hk.2))) | (show (Addr.add _ _).block ≠ _; rw [add_block]; exact Kd.own_blk (Kd.R_away HO_378001.out (fun _ hk => hk.2))) | (dsimp only; exact Kd.own_blk (Kd.R_away HO_378001.out (fun _ hk => hk.2)))) _).trans (((cell_far (p := ⟨gb388, _, none⟩) (by first | exact Kd.own_blk (Kd.R_away HO_378001.out (fun _ hk => hk.2)) | (rw [add_block]; exact Kd.own_blk (Kd.R_away HO_378001.out (fun _ hk => hk.2))) | (show (Addr.add _ _).block ≠ _; rw [add_block]; exact Kd.own_blk (Kd.R_away HO_378001.out (fun _ hk => hk.2))) | (dsimp only; exact Kd.own_blk (Kd.R_away HO_378001.out (fun _ hk => hk.2)))) _).trans (hHeld.2.2.2.2.2.2.2.2.2.2.2.2.2.2.2.2.1)))))))))))), ((cell_far (p := ⟨gb388, _, none⟩) (by first | exact Kd.own_blk (Kd.R_away HO_378001.out (fun _ hk => hk.2)) | (rw [add_block]; exact Kd.own_blk (Kd.R_away HO_378001.out (fun _ hk => hk.2))) | (show (Addr.add _ _).block ≠ _; rw [add_block]; exact Kd.own_blk (Kd.R_away HO_378001.out (fun _ hk => hk.2))) | (dsimp only; exact Kd.own_blk (Kd.R_away HO_378001.out (fun _ hk => hk.2)))) _).trans (((cell_far (p := ⟨gb388, _, none⟩) (by first | exact Kd.own_blk (Kd.R_away HO_378001.out (fun _ hk => hk.2)) | (rw [add_block]; exact Kd.own_blk (Kd.R_away HO_378001.out (fun _ hk => hk.2))) | (show (Addr.add _ _).block ≠ _; rw [add_block]; exact Kd.own_blk (Kd.R_away HO_378001.out (fun _ hk => hk.2))) | (dsimp only; exact Kd.own_blk (Kd.R_away HO_378001.out (fun _ hk => hk.2)))) _).trans (((cell_far (p := ⟨gb388, _, none⟩) (by first | exact Kd.own_blk (Kd.R_away HO_378001.out (fun _ hk => hk.2)) | (rw [add_block]; exact Kd.own_blk (Kd.R_away HO_378001.out (fun _ hk => hk.2))) | (show (Addr.add _ _).block ≠ _; rw [add_block]; exact Kd.own_blk (Kd.R_away HO_378001.out (fun _ hk => hk.2))) | (dsimp only; exact Kd.own_blk (Kd.R_away HO_378001.out (fun _ hk => hk.2)))) _).trans (((cell_far (p := ⟨gb388, _, none⟩) (by first | exact Kd.own_blk (Kd.R_away HO_378001.out (fun _ hk => hk.2)) | (rw [add_block]; exact Kd.own_blk (Kd.R_away HO_378001.out (fun _ hk => hk.2))) | (show (Addr.add _ _).block ≠ _; rw [add_block]; exact Kd.own_blk (Kd.R_away HO_378001.out (fun _ hk => hk.2))) | (dsimp only; exact Kd.own_blk (Kd.R_away HO_378001.out (fun _ hk => hk.2)))) _).trans (((cell_far (p := ⟨gb388, _, none⟩) (by first | exact Kd.own_blk (Kd.R_away HO_378001.out (fun _ hk => hk.2)) | (rw [add_block]; exact Kd.own_blk (Kd.R_away HO_378001.out (fun _ hk => hk.2))) | (show (Addr.add _ _).block ≠ _; rw [add_block]; exact Kd.own_blk (Kd.R_away HO_378001.out (fun _ hk => hk.2))) | (dsimp only; exact Kd.own_blk (Kd.R_away HO_378001.out (fun _ hk => hk.2)))) _).trans (((cell_far (p := ⟨gb388, _, none⟩) (by first | exact Kd.own_blk (Kd.R_away HO_378001.out (fun _ hk => hk.2)) | (rw [add_block]; exact Kd.own_blk (Kd.R_away HO_378001.out (fun _ hk => hk.2))) | (show (Addr.add _ _).block ≠ _; rw [add_block]; exact Kd.own_blk (Kd.R_away HO_378001.out (fun _ hk => hk.2))) | (dsimp only; exact Kd.own_blk (Kd.R_away HO_378001.out (fun _ hk => hk.2)))) _).trans (hHeld.2.2.2.2.2.2.2.2.2.2.2.2.2.2.2.2.2.1)))))))))))), ((cell_far (p := ⟨gb388, _, none⟩) (by first | exact Kd.own_blk (Kd.R_away HO_378001.out (fun _ hk => hk.2)) | (rw [add_block]; exact Kd.own_blk (Kd.R_away HO_378001.out (fun _ hk => hk.2))) | (show (Addr.add _ _).block ≠ _; rw [add_block]; exact Kd.own_blk (Kd.R_away HO_378001.out (fun _ hk => hk.2))) | (dsimp only; exact Kd.own_blk (Kd.R_away HO_378001.out (fun _ hk => hk.2)))) _).trans (((cell_far (p := ⟨gb388, _, none⟩) (by first | exact Kd.own_blk (Kd.R_away HO_378001.out (fun _ hk => hk.2)) | (rw [add_block]; exact Kd.own_blk (Kd.R_away HO_378001.out (fun _ hk => hk.2))) | (show (Addr.add _ _).block ≠ _; rw [add_block]; exact Kd.own_blk (Kd.R_away HO_378001.out (fun _ hk => hk.2))) | (dsimp only; exact Kd.own_blk (Kd.R_away HO_378001.out (fun _ hk => hk.2)))) _).trans (((cell_far (p := ⟨gb388, _, none⟩) (by first | exact Kd.own_blk (Kd.R_away HO_378001.out (fun _ hk => hk.2)) | (rw [add_block]; exact Kd.own_blk (Kd.R_away HO_378001.out (fun _ hk => hk.2))) | (show (Addr.add _ _).block ≠ _; rw [add_block]; exact Kd.own_blk (Kd.R_away HO_378001.out (fun _ hk => hk.2))) | (dsimp only; exact Kd.own_blk (Kd.R_away HO_378001.out (fun _ hk => hk.2)))) _).trans (((cell_far (p := ⟨gb388, _, none⟩) (by first | exact Kd.own_blk (Kd.R_away HO_378001.out (fun _ hk => hk.2)) | (rw [add_block]; exact Kd.own_blk (Kd.R_away HO_378001.out (fun _ hk => hk.2))) | (show (Addr.add _ _).block ≠ _; rw [add_block]; exact Kd.own_blk (Kd.R_away HO_378001.out (fun _ hk => hk.2))) | (dsimp only; exact Kd.own_blk (Kd.R_away HO_378001.out (fun _ hk => hk.2)))) _).trans (((cell_far (p := ⟨gb388, _, none⟩) (by first | exact Kd.own_blk (Kd.R_away HO_378001.out (fun _ hk => hk.2)) | (rw [add_block]; exact Kd.own_blk (Kd.R_away HO_378001.out (fun _ hk => hk.2))) | (show (Addr.add _ _).block ≠ _; rw [add_block]; exact Kd.own_blk (Kd.R_away HO_378001.out (fun _ hk => hk.2))) | (dsimp only; exact Kd.own_blk (Kd.R_away HO_378001.out (fun _ hk => hk.2)))) _).trans (((cell_far (p := ⟨gb388, _, none⟩) (by first | exact Kd.own_blk (Kd.R_away HO_378001.out (fun _ hk => hk.2)) | (rw [add_block]; exact Kd.own_blk (Kd.R_away HO_378001.out (fun _ hk => hk.2))) | (show (Addr.add _ _).block ≠ _; rw [add_block]; exact Kd.own_blk (Kd.R_away HO_378001.out (fun _ hk => hk.2))) | (dsimp only; exact Kd.own_blk (Kd.R_away HO_378001.out (fun _ hk => hk.2)))) _).trans (hHeld.2.2.2.2.2.2.2.2.2.2.2.2.2.2.2.2.2.2.1)))))))))))), ((cell_far (p := ⟨gb388, _, none⟩) (by first | exact Kd.own_blk (Kd.R_away HO_378001.out (fun _ hk => hk.2)) | (rw [add_block]; exact Kd.own_blk (Kd.R_away HO_378001.out (fun _ hk => hk.2))) | (show (Addr.add _ _).block ≠ _; rw [add_block]; exact Kd.own_blk (Kd.R_away HO_378001.out (fun _ hk => hk.2))) | (dsimp only; exact Kd.own_blk (Kd.R_away HO_378001.out (fun _ hk => hk.2)))) _).trans (((cell_far (p := ⟨gb388, _, none⟩) (by first | exact Kd.own_blk (Kd.R_away HO_378001.out (fun _ hk => hk.2)) | (rw [add_block]; exact Kd.own_blk (Kd.R_away HO_378001.out (fun _ hk => hk.2))) | (show (Addr.add _ _).block ≠ _; rw [add_block]; exact Kd.own_blk (Kd.R_away HO_378001.out (fun _ hk => hk.2))) | (dsimp only; exact Kd.own_blk (Kd.R_away HO_378001.out (fun _ hk => hk.2)))) _).trans (((cell_far (p := ⟨gb388, _, none⟩) (by first | exact Kd.own_blk (Kd.R_away HO_378001.out (fun _ hk => hk.2)) | (rw [add_block]; exact Kd.own_blk (Kd.R_away HO_378001.out (fun _ hk => hk.2))) | (show (Addr.add _ _).block ≠ _; rw [add_block]; exact Kd.own_blk (Kd.R_away HO_378001.out (fun _ hk => hk.2))) | (dsimp only; exact Kd.own_blk (Kd.R_away HO_378001.out (fun _ hk => hk.2)))) _).trans (((cell_far (p := ⟨gb388, _, none⟩) (by first | exact Kd.own_blk (Kd.R_away HO_378001.out (fun _ hk => hk.2)) | (rw [add_block]; exact Kd.own_blk (Kd.R_away HO_378001.out (fun _ hk => hk.2))) | (show (Addr.add _ _).block ≠ _; rw [add_block]; exact Kd.own_blk (Kd.R_away HO_378001.out (fun _ hk => hk.2))) | (dsimp only; exact Kd.own_blk (Kd.R_away HO_378001.out (fun _ hk => hk.2)))) _).trans (((cell_far (p := ⟨gb388, _, none⟩) (by first | exact Kd.own_blk (Kd.R_away HO_378001.out (fun _ hk => hk.2)) | (rw [add_block]; exact Kd.own_blk (Kd.R_away HO_378001.out (fun _ hk => hk.2))) | (show (Addr.add _ _).block ≠ _; rw [add_block]; exact Kd.own_blk (Kd.R_away HO_378001.out (fun _ hk => hk.2))) | (dsimp only; exact Kd.own_blk (Kd.R_away HO_378001.out (fun _ hk => hk.2)))) _).trans (((cell_far (p := ⟨gb388, _, none⟩) (by first | exact Kd.own_blk (Kd.R_away HO_378001.out (fun _ hk => hk.2)) | (rw [add_block]; exact Kd.own_blk (Kd.R_away HO_378001.out (fun _ hk => hk.2))) | (show (Addr.add _ _).block ≠ _; rw [add_block]; exact Kd.own_blk (Kd.R_away HO_378001.out (fun _ hk => hk.2))) | (dsimp only; exact Kd.own_blk (Kd.R_away HO_378001.out (fun _ hk => hk.2)))) _).trans (hHeld.2.2.2.2.2.2.2.2.2.2.2.2.2.2.2.2.2.2.2))))))))))))⟩ (fun hHeld => ?_)
              clear hK K
              refine done_ (done_of HT_.out (by kernel_rfl)) ?_
              go_upto_region 14 with (fail)
              go_cut [90] (fun v90 wc => ∃ (kq : Nat) (x90_38 : Bool), v90 = .bool x90_38 ∧ Aside0 (drumlinelaw6_HopsSteps.j2 kq x8_1 (Int.tmod (wrap64 (a2)) (t360.length : Int)) t378 x11_1 x90_38 t360 t363 t366 t367 t368 t369 t370 t371 t372 t373 t374 t375 t376 ((rd_T37 t363 (rd t378 x11_1)).f0) ((rd_T37 t363 (rd t378 x11_1)).f1) ((rd_T37 t363 (rd t378 x11_1)).f2.f0) ((rd_T37 t363 (rd t378 x11_1)).f2.f1) ((rd_T37 t363 (rd t378 x11_1)).f3.f0) ((rd_T37 t363 (rd t378 x11_1)).f3.f1) = some r) ∧ Aside0 (kq ≤ kj24) ∧ Aside0 (Kd.R (Kd.int .i64) 3 wc w.heap.size (fun _ => True) (.slice (some ad386) t378.length co21) t378) ∧ Aside0 (Kd.R k60 60 wc w.heap.size (fun _ => True) (.slice Ao14 t360.length co14) t360) ∧ Aside0 (Kd.R k37 37 wc w.heap.size (fun k_ => k_ ≠ gb388) (.slice (some ad387) t363.length co16) t363) ∧ Aside0 (wc.heap[gb377]? = some (.cells #[(.slice Ao14 t360.length co14), (.slice (some ad387) t363.length co16), .int .i64 t366, .int .i64 t367, .int .i64 t368, .int .i64 t369, .int .i64 t370, .int .i64 t371, .int .i64 t372, .int .i64 t373, .int .i64 t374, .int .i64 t375, .int .i64 t376] 25 (0, 0))) ∧ Aside0 (wc.heap[gb388]? = some (.cells #[.int .i64 ((rd_T37 t363 (rd t378 x11_1)).f0), .int .i64 ((rd_T37 t363 (rd t378 x11_1)).f1), .int .i64 ((rd_T37 t363 (rd t378 x11_1)).f2.f0), .int .i64 ((rd_T37 t363 (rd t378 x11_1)).f2.f1), .int .i64 ((rd_T37 t363 (rd t378 x11_1)).f3.f0), .int .i64 ((rd_T37 t363 (rd t378 x11_1)).f3.f1)] 37 (0, 0))) ∧ Aside0 (Below w.heap.size w wc))
              case first =>
               have H := HC39.out
               clear HC39
               by_cases c48 : ((rd_T37 t363 (rd t378 x11_1)).f0) = x8_1
               ·rw [if_pos c48] at H
                have c48b0 : (((rd_T37 t363 (rd t378 x11_1)).f0) == x8_1) = true := beq_iff_eq.mpr c48
                have c48b1 : (((rd_T37 t363 (rd t378 x11_1)).f0) != x8_1) = false := bne_eq_false_iff_eq.mpr c48
                clear c48
                (first | rw [c48b0] | (simp only [i64_w, i32_w]; rw [c48b0]) | skip)
                have H' := Aside0.mk H
                clear H
                have hnb49 := NB388_377.out
                have hnc49 := NB377_388.out
                obtain ⟨hcz50_0, hcz50_1, hcz50_2, hcz50_3, hcz50_4, hcz50_5⟩ := cellsK6 BK388.out
                obtain ⟨hfz50_0, hfz50_1, hfz50_2, hfz50_3, hfz50_4, hfz50_5⟩ := frozK6 BK388.out
                go_wp2
                go_meet
                case rel => exact ⟨_, (false), (by first | rfl | (simp; done) | (simp [*]; done) | (have := TNA.out; unfold wrap64; congr 1; omega) | (unfold wrap64; omega)), H', ⟨by have := HK1.out; have := HJ24.out; first | omega | exact Nat.le_refl _⟩, ⟨by (with_reducible repeat (first | apply Kd.R_alloc | apply Kd.R_drewN | apply Kd.R_drew)); exact Kd.R_mono (Kd.R_far (p := ⟨gb388, 5, none⟩) (Kd.R_far (p := ⟨gb388, 4, none⟩) (Kd.R_far (p := ⟨gb388, 3, none⟩) (Kd.R_far (p := ⟨gb388, 2, none⟩) (Kd.R_far (p := ⟨gb388, 1, none⟩) (Kd.R_far (p := ⟨gb388, 0, none⟩) (Kd.R_types HO_10.out BK388.out (by decide)) (fun _ hk => hk.2) (.int .i64 ((rd_T37 t363 (rd t378 x11_1)).f0))) (fun _ hk => hk.2) (.int .i64 ((rd_T37 t363 (rd t378 x11_1)).f1))) (fun _ hk => hk.2) (.int .i64 ((rd_T37 t363 (rd t378 x11_1)).f2.f0))) (fun _ hk => hk.2) (.int .i64 ((rd_T37 t363 (rd t378 x11_1)).f2.f1))) (fun _ hk => hk.2) (.int .i64 ((rd_T37 t363 (rd t378 x11_1)).f3.f0))) (fun _ hk => hk.2) (.int .i64 ((rd_T37 t363 (rd t378 x11_1)).f3.f1))) (fun _ hk => trivial)⟩, ⟨by (with_reducible repeat (first | apply Kd.R_alloc | apply Kd.R_drewN | apply Kd.R_drew)); exact Kd.R_mono (Kd.R_far (p := ⟨gb388, 5, none⟩) (Kd.R_far (p := ⟨gb388, 4, none⟩) (Kd.R_far (p := ⟨gb388, 3, none⟩) (Kd.R_far (p := ⟨gb388, 2, none⟩) (Kd.R_far (p := ⟨gb388, 1, none⟩) (Kd.R_far (p := ⟨gb388, 0, none⟩) (Kd.R_types HO_378000.out BK388.out (by decide)) (fun _ hk => hk.2) (.int .i64 ((rd_T37 t363 (rd t378 x11_1)).f0))) (fun _ hk => hk.2) (.int .i64 ((rd_T37 t363 (rd t378 x11_1)).f1))) (fun _ hk => hk.2) (.int .i64 ((rd_T37 t363 (rd t378 x11_1)).f2.f0))) (fun _ hk => hk.2) (.int .i64 ((rd_T37 t363 (rd t378 x11_1)).f2.f1))) (fun _ hk => hk.2) (.int .i64 ((rd_T37 t363 (rd t378 x11_1)).f3.f0))) (fun _ hk => hk.2) (.int .i64 ((rd_T37 t363 (rd t378 x11_1)).f3.f1))) (fun _ hk => trivial)⟩, ⟨by (with_reducible repeat (first | apply Kd.R_alloc | apply Kd.R_drewN | apply Kd.R_drew)); exact Kd.R_mono (Kd.R_far (p := ⟨gb388, 5, none⟩) (Kd.R_far (p := ⟨gb388, 4, none⟩) (Kd.R_far (p := ⟨gb388, 3, none⟩) (Kd.R_far (p := ⟨gb388, 2, none⟩) (Kd.R_far (p := ⟨gb388, 1, none⟩) (Kd.R_far (p := ⟨gb388, 0, none⟩) (Kd.R_mono HO_378001.out (fun k_ hk => (⟨hk, hk.2⟩ : _ ∧ k_ ≠ gb388))) (fun _ hk => hk.2) (.int .i64 ((rd_T37 t363 (rd t378 x11_1)).f0))) (fun _ hk => hk.2) (.int .i64 ((rd_T37 t363 (rd t378 x11_1)).f1))) (fun _ hk => hk.2) (.int .i64 ((rd_T37 t363 (rd t378 x11_1)).f2.f0))) (fun _ hk => hk.2) (.int .i64 ((rd_T37 t363 (rd t378 x11_1)).f2.f1))) (fun _ hk => hk.2) (.int .i64 ((rd_T37 t363 (rd t378 x11_1)).f3.f0))) (fun _ hk => hk.2) (.int .i64 ((rd_T37 t363 (rd t378 x11_1)).f3.f1))) (fun _ hk => hk.1.2)⟩, ⟨by (with_reducible repeat (first | refine blk_drewN ?_ _ | refine blk_drew ?_ | refine blk_alloc ?_ _)); refine blk_far ?_ NB377_388.out _; (with_reducible repeat (first | refine blk_drewN ?_ _ | refine blk_drew ?_ | refine blk_alloc ?_ _)); refine blk_far ?_ NB377_388.out _; (with_reducible repeat (first | refine blk_drewN ?_ _ | refine blk_drew ?_ | refine blk_alloc ?_ _)); refine blk_far ?_ NB377_388.out _; (with_reducible repeat (first | refine blk_drewN ?_ _ | refine blk_drew ?_ | refine blk_alloc ?_ _)); refine blk_far ?_ NB377_388.out _; (with_reducible repeat (first | refine blk_drewN ?_ _ | refine blk_drew ?_ | refine blk_alloc ?_ _)); refine blk_far ?_ NB377_388.out _; (with_reducible repeat (first | refine blk_drewN ?_ _ | refine blk_drew ?_ | refine blk_alloc ?_ _)); refine blk_far ?_ NB377_388.out _; (with_reducible repeat (first | refine blk_drewN ?_ _ | refine blk_drew ?_ | refine blk_alloc ?_ _)); exact BK377.out⟩, ⟨by (with_reducible repeat (first | refine blk_drewN ?_ _ | refine blk_drew ?_ | refine blk_alloc ?_ _)); refine blk_put (cs := #[.int .i64 ((rd_T37 t363 (rd t378 x11_1)).f0), .int .i64 ((rd_T37 t363 (rd t378 x11_1)).f1), .int .i64 ((rd_T37 t363 (rd t378 x11_1)).f2.f0), .int .i64 ((rd_T37 t363 (rd t378 x11_1)).f2.f1), .int .i64 ((rd_T37 t363 (rd t378 x11_1)).f3.f0), .int .i64 0]) ?_ 5 _ rfl; (with_reducible repeat (first | refine blk_drewN ?_ _ | refine blk_drew ?_ | refine blk_alloc ?_ _)); refine blk_put (cs := #[.int .i64 ((rd_T37 t363 (rd t378 x11_1)).f0), .int .i64 ((rd_T37 t363 (rd t378 x11_1)).f1), .int .i64 ((rd_T37 t363 (rd t378 x11_1)).f2.f0), .int .i64 ((rd_T37 t363 (rd t378 x11_1)).f2.f1), .int .i64 0, .int .i64 0]) ?_ 4 _ rfl; (with_reducible repeat (first | refine blk_drewN ?_ _ | refine blk_drew ?_ | refine blk_alloc ?_ _)); refine blk_put (cs := #[.int .i64 ((rd_T37 t363 (rd t378 x11_1)).f0), .int .i64 ((rd_T37 t363 (rd t378 x11_1)).f1), .int .i64 ((rd_T37 t363 (rd t378 x11_1)).f2.f0), .int .i64 0, .int .i64 0, .int .i64 0]) ?_ 3 _ rfl; (with_reducible repeat (first | refine blk_drewN ?_ _ | refine blk_drew ?_ | refine blk_alloc ?_ _)); refine blk_put (cs := #[.int .i64 ((rd_T37 t363 (rd t378 x11_1)).f0), .int .i64 ((rd_T37 t363 (rd t378 x11_1)).f1), .int .i64 0, .int .i64 0, .int .i64 0, .int .i64 0]) ?_ 2 _ rfl; (with_reducible repeat (first | refine blk_drewN ?_ _ | refine blk_drew ?_ | refine blk_alloc ?_ _)); refine blk_put (cs := #[.int .i64 ((rd_T37 t363 (rd t378 x11_1)).f0), .int .i64 0, .int .i64 0, .int .i64 0, .int .i64 0, .int .i64 0]) ?_ 1 _ rfl; (with_reducible repeat (first | refine blk_drewN ?_ _ | refine blk_drew ?_ | refine blk_alloc ?_ _)); refine blk_put (cs := #[.int .i64 0, .int .i64 0, .int .i64 0, .int .i64 0, .int .i64 0, .int .i64 0]) ?_ 0 _ rfl; (with_reducible repeat (first | refine blk_drewN ?_ _ | refine blk_drew ?_ | refine blk_alloc ?_ _)); exact BK388.out⟩, ⟨by repeat (first | (with_reducible first | exact HB.out | apply below_alloc | apply pw_below_drewN | apply below_drew1 | refine below_set ?_ GE377.out | refine below_set ?_ GE388.out) | exact HB.out)⟩⟩
               ·rw [if_neg c48] at H
                have c48b0 : (((rd_T37 t363 (rd t378 x11_1)).f0) == x8_1) = false := beq_eq_false_iff_ne.mpr c48
                have c48b1 : (((rd_T37 t363 (rd t378 x11_1)).f0) != x8_1) = true := bne_iff_ne.mpr c48
                (first | rw [c48b0] | (simp only [i64_w, i32_w]; rw [c48b0]) | skip)
                have H' := Aside0.mk H
                clear H
                have hnb51 := NB388_377.out
                have hnc51 := NB377_388.out
                obtain ⟨hcz52_0, hcz52_1, hcz52_2, hcz52_3, hcz52_4, hcz52_5⟩ := cellsK6 BK388.out
                obtain ⟨hfz52_0, hfz52_1, hfz52_2, hfz52_3, hfz52_4, hfz52_5⟩ := frozK6 BK388.out
                go_wp2
                go_meet
                case rel => exact ⟨_, ((((rd_T37 t363 (rd t378 x11_1)).f1) != x8_1)), (by first | rfl | (simp; done) | (simp [*]; done) | (have := TNA.out; unfold wrap64; congr 1; omega) | (unfold wrap64; omega)), H', ⟨by have := HK1.out; have := HJ24.out; first | omega | exact Nat.le_refl _⟩, ⟨by (with_reducible repeat (first | apply Kd.R_alloc | apply Kd.R_drewN | apply Kd.R_drew)); exact Kd.R_mono (Kd.R_far (p := ⟨gb388, 5, none⟩) (Kd.R_far (p := ⟨gb388, 4, none⟩) (Kd.R_far (p := ⟨gb388, 3, none⟩) (Kd.R_far (p := ⟨gb388, 2, none⟩) (Kd.R_far (p := ⟨gb388, 1, none⟩) (Kd.R_far (p := ⟨gb388, 0, none⟩) (Kd.R_types HO_10.out BK388.out (by decide)) (fun _ hk => hk.2) (.int .i64 ((rd_T37 t363 (rd t378 x11_1)).f0))) (fun _ hk => hk.2) (.int .i64 ((rd_T37 t363 (rd t378 x11_1)).f1))) (fun _ hk => hk.2) (.int .i64 ((rd_T37 t363 (rd t378 x11_1)).f2.f0))) (fun _ hk => hk.2) (.int .i64 ((rd_T37 t363 (rd t378 x11_1)).f2.f1))) (fun _ hk => hk.2) (.int .i64 ((rd_T37 t363 (rd t378 x11_1)).f3.f0))) (fun _ hk => hk.2) (.int .i64 ((rd_T37 t363 (rd t378 x11_1)).f3.f1))) (fun _ hk => trivial)⟩, ⟨by (with_reducible repeat (first | apply Kd.R_alloc | apply Kd.R_drewN | apply Kd.R_drew)); exact Kd.R_mono (Kd.R_far (p := ⟨gb388, 5, none⟩) (Kd.R_far (p := ⟨gb388, 4, none⟩) (Kd.R_far (p := ⟨gb388, 3, none⟩) (Kd.R_far (p := ⟨gb388, 2, none⟩) (Kd.R_far (p := ⟨gb388, 1, none⟩) (Kd.R_far (p := ⟨gb388, 0, none⟩) (Kd.R_types HO_378000.out BK388.out (by decide)) (fun _ hk => hk.2) (.int .i64 ((rd_T37 t363 (rd t378 x11_1)).f0))) (fun _ hk => hk.2) (.int .i64 ((rd_T37 t363 (rd t378 x11_1)).f1))) (fun _ hk => hk.2) (.int .i64 ((rd_T37 t363 (rd t378 x11_1)).f2.f0))) (fun _ hk => hk.2) (.int .i64 ((rd_T37 t363 (rd t378 x11_1)).f2.f1))) (fun _ hk => hk.2) (.int .i64 ((rd_T37 t363 (rd t378 x11_1)).f3.f0))) (fun _ hk => hk.2) (.int .i64 ((rd_T37 t363 (rd t378 x11_1)).f3.f1))) (fun _ hk => trivial)⟩, ⟨by (with_reducible repeat (first | apply Kd.R_alloc | apply Kd.R_drewN | apply Kd.R_drew)); exact Kd.R_mono (Kd.R_far (p := ⟨gb388, 5, none⟩) (Kd.R_far (p := ⟨gb388, 4, none⟩) (Kd.R_far (p := ⟨gb388, 3, none⟩) (Kd.R_far (p := ⟨gb388, 2, none⟩) (Kd.R_far (p := ⟨gb388, 1, none⟩) (Kd.R_far (p := ⟨gb388, 0, none⟩) (Kd.R_mono HO_378001.out (fun k_ hk => (⟨hk, hk.2⟩ : _ ∧ k_ ≠ gb388))) (fun _ hk => hk.2) (.int .i64 ((rd_T37 t363 (rd t378 x11_1)).f0))) (fun _ hk => hk.2) (.int .i64 ((rd_T37 t363 (rd t378 x11_1)).f1))) (fun _ hk => hk.2) (.int .i64 ((rd_T37 t363 (rd t378 x11_1)).f2.f0))) (fun _ hk => hk.2) (.int .i64 ((rd_T37 t363 (rd t378 x11_1)).f2.f1))) (fun _ hk => hk.2) (.int .i64 ((rd_T37 t363 (rd t378 x11_1)).f3.f0))) (fun _ hk => hk.2) (.int .i64 ((rd_T37 t363 (rd t378 x11_1)).f3.f1))) (fun _ hk => hk.1.2)⟩, ⟨by (with_reducible repeat (first | refine blk_drewN ?_ _ | refine blk_drew ?_ | refine blk_alloc ?_ _)); refine blk_far ?_ NB377_388.out _; (with_reducible repeat (first | refine blk_drewN ?_ _ | refine blk_drew ?_ | refine blk_alloc ?_ _)); refine blk_far ?_ NB377_388.out _; (with_reducible repeat (first | refine blk_drewN ?_ _ | refine blk_drew ?_ | refine blk_alloc ?_ _)); refine blk_far ?_ NB377_388.out _; (with_reducible repeat (first | refine blk_drewN ?_ _ | refine blk_drew ?_ | refine blk_alloc ?_ _)); refine blk_far ?_ NB377_388.out _; (with_reducible repeat (first | refine blk_drewN ?_ _ | refine blk_drew ?_ | refine blk_alloc ?_ _)); refine blk_far ?_ NB377_388.out _; (with_reducible repeat (first | refine blk_drewN ?_ _ | refine blk_drew ?_ | refine blk_alloc ?_ _)); refine blk_far ?_ NB377_388.out _; (with_reducible repeat (first | refine blk_drewN ?_ _ | refine blk_drew ?_ | refine blk_alloc ?_ _)); exact BK377.out⟩, ⟨by (with_reducible repeat (first | refine blk_drewN ?_ _ | refine blk_drew ?_ | refine blk_alloc ?_ _)); refine blk_put (cs := #[.int .i64 ((rd_T37 t363 (rd t378 x11_1)).f0), .int .i64 ((rd_T37 t363 (rd t378 x11_1)).f1), .int .i64 ((rd_T37 t363 (rd t378 x11_1)).f2.f0), .int .i64 ((rd_T37 t363 (rd t378 x11_1)).f2.f1), .int .i64 ((rd_T37 t363 (rd t378 x11_1)).f3.f0), .int .i64 0]) ?_ 5 _ rfl; (with_reducible repeat (first | refine blk_drewN ?_ _ | refine blk_drew ?_ | refine blk_alloc ?_ _)); refine blk_put (cs := #[.int .i64 ((rd_T37 t363 (rd t378 x11_1)).f0), .int .i64 ((rd_T37 t363 (rd t378 x11_1)).f1), .int .i64 ((rd_T37 t363 (rd t378 x11_1)).f2.f0), .int .i64 ((rd_T37 t363 (rd t378 x11_1)).f2.f1), .int .i64 0, .int .i64 0]) ?_ 4 _ rfl; (with_reducible repeat (first | refine blk_drewN ?_ _ | refine blk_drew ?_ | refine blk_alloc ?_ _)); refine blk_put (cs := #[.int .i64 ((rd_T37 t363 (rd t378 x11_1)).f0), .int .i64 ((rd_T37 t363 (rd t378 x11_1)).f1), .int .i64 ((rd_T37 t363 (rd t378 x11_1)).f2.f0), .int .i64 0, .int .i64 0, .int .i64 0]) ?_ 3 _ rfl; (with_reducible repeat (first | refine blk_drewN ?_ _ | refine blk_drew ?_ | refine blk_alloc ?_ _)); refine blk_put (cs := #[.int .i64 ((rd_T37 t363 (rd t378 x11_1)).f0), .int .i64 ((rd_T37 t363 (rd t378 x11_1)).f1), .int .i64 0, .int .i64 0, .int .i64 0, .int .i64 0]) ?_ 2 _ rfl; (with_reducible repeat (first | refine blk_drewN ?_ _ | refine blk_drew ?_ | refine blk_alloc ?_ _)); refine blk_put (cs := #[.int .i64 ((rd_T37 t363 (rd t378 x11_1)).f0), .int .i64 0, .int .i64 0, .int .i64 0, .int .i64 0, .int .i64 0]) ?_ 1 _ rfl; (with_reducible repeat (first | refine blk_drewN ?_ _ | refine blk_drew ?_ | refine blk_alloc ?_ _)); refine blk_put (cs := #[.int .i64 0, .int .i64 0, .int .i64 0, .int .i64 0, .int .i64 0, .int .i64 0]) ?_ 0 _ rfl; (with_reducible repeat (first | refine blk_drewN ?_ _ | refine blk_drew ?_ | refine blk_alloc ?_ _)); exact BK388.out⟩, ⟨by repeat (first | (with_reducible first | exact HB.out | apply below_alloc | apply pw_below_drewN | apply below_drew1 | refine below_set ?_ GE377.out | refine below_set ?_ GE388.out) | exact HB.out)⟩⟩
              case rest =>
               clear HC39
               try clear c1
               try clear c2
               try clear p2
               try clear c3
               try clear p3
               try clear q3
               try clear hx3
               try clear c4
               try clear c5
               try clear p6
               try clear c13
               try clear c26
               try clear c27
               try clear c27b0
               try clear c29
               try clear c29b0
               try clear c34
               try clear c35
               try clear c35b0
               try clear c36
               try clear c36b0
               try clear c37
               try clear c37b0
               try clear c38
               try clear c38b0
               try clear p38
               try clear q38
               try clear hx38
               try clear c48
               try clear c48b0
               try clear c48b1
               try clear c49
               try clear c51
               try clear hcz50_0
               try clear hcz50_1
               try clear hcz50_2
               try clear hcz50_3
               try clear hcz50_4
               try clear hcz50_5
               try clear hcz52_0
               try clear hcz52_1
               try clear hcz52_2
               try clear hcz52_3
               try clear hcz52_4
               try clear hcz52_5
               try clear hfz50_0
               try clear hfz50_1
               try clear hfz50_2
               try clear hfz50_3
               try clear hfz50_4
               try clear hfz50_5
               try clear hfz52_0
               try clear hfz52_1
               try clear hfz52_2
               try clear hfz52_3
               try clear hfz52_4
               try clear hfz52_5
               try clear hx382_0
               try clear hx383_0
               try clear hx385_0
               try clear hx386_0
               try clear hx387_0
               try clear hx387_1
               try clear hx387_2
               try clear hx387_3
               try clear hx387_4
               try clear hx387_5
               try clear p2
               try clear p3
               try clear p382
               try clear p383
               try clear p385
               try clear p386
               try clear p387
               try clear p6
               try clear q3
               try clear q382
               try clear q383
               try clear q385
               try clear q386
               try clear q387
               obtain ⟨kq, x90_38, rfl, HA, HJ38, HO_10, HO_378000, HO_378001, BK377, BK388, HB⟩ := hcut
               cases kq with
               | zero => exact absurd HA.out (by simp [drumlinelaw6_HopsSteps.j2])
               | succ kj38 =>
                have H := HA.out
                clear HA
                simp only [drumlinelaw6_HopsSteps.j2] at H
                by_cases c53 : x90_38 = true
                ·subst c53
                 have H1 : (some false) = some r := by rw [if_pos rfl] at H; exact H
                 clear H
                 have H := H1
                 clear H1
                 obtain rfl := Option.some.inj H
                 go_wp2
                 go_ret
                 exact ⟨by first | rfl | (simp [errW_none, errW_some] <;> rfl) | (simp [*, errW_none, errW_some] <;> rfl), by repeat (first | (with_reducible first | exact HB.out | apply below_alloc | apply pw_below_drewN | apply below_drew1 | refine below_set ?_ GE377.out | refine below_set ?_ GE388.out) | exact HB.out)⟩
                ·replace c53 := Bool.eq_false_iff.mpr c53
                 subst c53
                 have H1 : ((hops_Dist.f kj38 t360 t363 t366 t367 t368 t369 t370 t371 t372 t373 t374 t375 t376 (wrap64 ((wrap64 (((rd_T37 t363 (rd t378 x11_1)).f0) + ((rd_T37 t363 (rd t378 x11_1)).f1))) - x8_1)) (Int.tmod (wrap64 (a2)) (t360.length : Int))).bind fun t389 => ((hops_Dist.f kj38 t360 t363 t366 t367 t368 t369 t370 t371 t372 t373 t374 t375 t376 x8_1 (Int.tmod (wrap64 (a2)) (t360.length : Int))).bind fun t390 => (if t389 = (wrap64 (t390 - 1)) then (drumlinelaw6_HopsSteps.l0 kj38 (wrap64 ((wrap64 (((rd_T37 t363 (rd t378 x11_1)).f0) + ((rd_T37 t363 (rd t378 x11_1)).f1))) - x8_1)) (Int.tmod (wrap64 (a2)) (t360.length : Int)) t378 (wrap64 (x11_1 + 1)) t360 t363 t366 t367 t368 t369 t370 t371 t372 t373 t374 t375 t376) else (some false)))) = some r := by rw [if_neg (show ¬ (false = true) by decide)] at H; exact H
                 clear H
                 have H := H1
                 clear H1
                 replace H := Option.bind_eq_some_iff.mp H
                 obtain ⟨t389, A540, H⟩ := H
                 replace H : ((hops_Dist.f kj38 t360 t363 t366 t367 t368 t369 t370 t371 t372 t373 t374 t375 t376 x8_1 (Int.tmod (wrap64 (a2)) (t360.length : Int))).bind fun t390 => (if t389 = (wrap64 (t390 - 1)) then (drumlinelaw6_HopsSteps.l0 kj38 (wrap64 ((wrap64 (((rd_T37 t363 (rd t378 x11_1)).f0) + ((rd_T37 t363 (rd t378 x11_1)).f1))) - x8_1)) (Int.tmod (wrap64 (a2)) (t360.length : Int)) t378 (wrap64 (x11_1 + 1)) t360 t363 t366 t367 t368 t369 t370 t371 t372 t373 t374 t375 t376) else (some false))) = some r := H
                 have A54 := Aside0.mk A540
                 clear A540
                 replace H := Option.bind_eq_some_iff.mp H
                 obtain ⟨t390, A550, H⟩ := H
                 replace H : (if t389 = (wrap64 (t390 - 1)) then (drumlinelaw6_HopsSteps.l0 kj38 (wrap64 ((wrap64 (((rd_T37 t363 (rd t378 x11_1)).f0) + ((rd_T37 t363 (rd t378 x11_1)).f1))) - x8_1)) (Int.tmod (wrap64 (a2)) (t360.length : Int)) t378 (wrap64 (x11_1 + 1)) t360 t363 t366 t367 t368 t369 t370 t371 t372 t373 t374 t375 t376) else (some false)) = some r := H
                 have A55 := Aside0.mk A550
                 clear A550
                 by_cases c56 : t389 = (wrap64 (t390 - 1))
                 ·rw [if_pos c56] at H
                  have c56b0 : (t389 == (wrap64 (t390 - 1))) = true := beq_iff_eq.mpr c56
                  have c56b1 : (t389 != (wrap64 (t390 - 1))) = false := bne_eq_false_iff_eq.mpr c56
                  clear c56
                  have H' := Aside0.mk H
                  clear H
                  have hnb57 := NB388_377.out
                  have hnc57 := NB377_388.out
                  obtain ⟨hcz58_0, hcz58_1, hcz58_2, hcz58_3, hcz58_4, hcz58_5⟩ := cellsK6 BK388.out
                  obtain ⟨hfz58_0, hfz58_1, hfz58_2, hfz58_3, hfz58_4, hfz58_5⟩ := frozK6 BK388.out
                  try go_wp2
                  have n0_ := Aside0.mk (Kd.R_drew HO_10.out)
                  have n1_ := Aside0.mk (Kd.R_drew HO_378000.out)
                  have n2_ := Aside0.mk (Kd.R_drew HO_378001.out)
                  have n3_ := Aside0.mk (blk_drew BK377.out)
                  have n4_ := Aside0.mk (blk_drew BK388.out)
                  have n5_ := Aside0.mk (below_drew1 HB.out)
                  clear HO_10
                  clear HO_378000
                  clear HO_378001
                  clear BK377
                  clear BK388
                  clear HB
                  have HO_10 := n0_
                  have HO_378000 := n1_
                  have HO_378001 := n2_
                  have BK377 := n3_
                  have BK388 := n4_
                  have HB := n5_
                  clear n0_ n1_ n2_ n3_ n4_ n5_
                  refine start_ (n := 10) (S := fun w' => w'.cell? ⟨gb377, 0, none⟩ = some (.slice Ao14 t360.length co14) ∧ w'.cell? ⟨gb377, 1, none⟩ = some (.slice (some ad387) t363.length co16) ∧ w'.cell? ⟨gb377, 2, none⟩ = some (.int .i64 t366) ∧ w'.cell? ⟨gb377, 3, none⟩ = some (.int .i64 t367) ∧ w'.cell? ⟨gb377, 4, none⟩ = some (.int .i64 t368) ∧ w'.cell? ⟨gb377, 5, none⟩ = some (.int .i64 t369) ∧ w'.cell? ⟨gb377, 6, none⟩ = some (.int .i64 t370) ∧ w'.cell? ⟨gb377, 7, none⟩ = some (.int .i64 t371) ∧ w'.cell? ⟨gb377, 8, none⟩ = some (.int .i64 t372) ∧ w'.cell? ⟨gb377, 9, none⟩ = some (.int .i64 t373) ∧ w'.cell? ⟨gb377, 10, none⟩ = some (.int .i64 t374) ∧ w'.cell? ⟨gb377, 11, none⟩ = some (.int .i64 t375) ∧ w'.cell? ⟨gb377, 12, none⟩ = some (.int .i64 t376)) (ds := []) #[false, false, false, false, false, false, false, false, false, false] (by kernel_rfl) rfl rfl ⟨(blk_cell BK377.out 0).trans rfl, (blk_cell BK377.out 1).trans rfl, (blk_cell BK377.out 2).trans rfl, (blk_cell BK377.out 3).trans rfl, (blk_cell BK377.out 4).trans rfl, (blk_cell BK377.out 5).trans rfl, (blk_cell BK377.out 6).trans rfl, (blk_cell BK377.out 7).trans rfl, (blk_cell BK377.out 8).trans rfl, (blk_cell BK377.out 9).trans rfl, (blk_cell BK377.out 10).trans rfl, (blk_cell BK377.out 11).trans rfl, (blk_cell BK377.out 12).trans rfl⟩ (fun hHeld => ?_); refine with_tabW drumlinelaw6_HopsSteps.tab17 drumlinelaw6_HopsSteps.bits17 (fun HT_ HW_ => ?_)
                  generalize wc.drew = w59 at HO_10 HO_378000 HO_378001 BK377 BK388 HB hHeld ⊢
                  refine pure_ (i := 1) (N := some 99) (v := ?_) (a' := ?_) #[false, true, false, false, false, false, false, false, false, false] rfl rfl (any_of HT_.out (by kernel_rfl)) (fun _ _ _ h => h) (Or.inl ⟨by rfl, ?_⟩) ?_ ?_
                  rotate_left
                  ·intro w'
                   go_simp
                   with_reducible rfl
                  rotate_left
                  ·simp only [Act.put, sAa, sBb, sCc, i64_w, i32_w]
                   rfl
                  refine pure_ (i := 2) (N := some 100) (v := ?_) (a' := ?_) #[false, true, true, false, false, false, false, false, false, false] rfl rfl (any_of HT_.out (by kernel_rfl)) (fun _ _ _ h => h) (Or.inl ⟨by rfl, ?_⟩) ?_ ?_
                  rotate_left
                  ·intro w'
                   go_simp
                   with_reducible rfl
                  rotate_left
                  ·simp only [Act.put, sAa, sBb, sCc, i64_w, i32_w]
                   rfl
                  refine pure_ (i := 5) (N := some 103) (v := ?_) (a' := ?_) #[false, true, true, false, false, true, false, false, false, false] rfl rfl (any_of HT_.out (by kernel_rfl)) (fun _ _ _ h => h) (Or.inl ⟨by rfl, ?_⟩) ?_ ?_
                  rotate_left
                  ·intro w'
                   go_simp
                   with_reducible rfl
                  rotate_left
                  ·simp only [Act.put, sAa, sBb, sCc, i64_w, i32_w]
                   rfl
                  refine pure_ (i := 6) (N := some 104) (v := ?_) (a' := ?_) #[false, true, true, false, false, true, true, false, false, false] rfl rfl (any_of HT_.out (by kernel_rfl)) (fun _ _ _ h => h) (Or.inl ⟨by rfl, ?_⟩) ?_ ?_
                  rotate_left
                  ·intro w'
                   go_simp
                   with_reducible rfl
                  rotate_left
                  ·simp only [Act.put, sAa, sBb, sCc, i64_w, i32_w]
                   rfl
                  refine take_ (i := 0) (N := some 98) (v := ?_) (a' := ?_) #[true, true, true, false, false, true, true, false, false, false] rfl rfl (take_ofW HT_.out HW_.out (by kernel_rfl)) (fun _ _ _ h => h) (Or.inl ⟨by rfl, ?_⟩) hHeld ?_ ?_
                  rotate_left
                  ·rintro w' ⟨s0, s1, s2, s3, s4, s5, s6, s7, s8, s9, s10, s11, s12⟩
                   go_simp
                   with_reducible rfl
                  rotate_left
                  ·simp only [Act.put, sAa, sBb, sCc, i64_w, i32_w]
                   rfl
                  refine take_ (i := 4) (N := some 102) (v := ?_) (a' := ?_) #[true, true, true, false, true, true, true, false, false, false] rfl rfl (take_ofW HT_.out HW_.out (by kernel_rfl)) (fun _ _ _ h => h) (Or.inl ⟨by rfl, ?_⟩) hHeld ?_ ?_
                  rotate_left
                  ·rintro w' ⟨s0, s1, s2, s3, s4, s5, s6, s7, s8, s9, s10, s11, s12⟩
                   go_simp
                   with_reducible rfl
                  rotate_left
                  ·simp only [Act.put, sAa, sBb, sCc, i64_w, i32_w]
                   rfl
                  refine one_ (i := 3) (N := some 101) #[true, true, true, true, true, true, true, false, false, false] rfl rfl (one_of HT_.out (by kernel_rfl)) (by decide) (fun K hK => ?_)
                  refine goes_ Tryd.func11 (by kernel_rfl) rfl #[.agg #[.slice Ao14 t360.length co14, .slice (some ad387) t363.length co16, .int .i64 t366, .int .i64 t367, .int .i64 t368, .int .i64 t369, .int .i64 t370, .int .i64 t371, .int .i64 t372, .int .i64 t373, .int .i64 t374, .int .i64 t375, .int .i64 t376], .int .i64 (wrap64 ((wrap64 (((rd_T37 t363 (rd t378 x11_1)).f0) + ((rd_T37 t363 (rd t378 x11_1)).f1))) - x8_1)), .int .i64 (Int.tmod (wrap64 (a2)) (t360.length : Int))] (by rfl) rfl rfl (by (try simp only [List.map_toArray, List.map_cons, List.map_nil]); first | done | rfl | (simp only [List.length_drop, List.length_take]; rfl)) ?_
                  with_reducible refine (hops_Dist.calls kj38 _ _ t360 _ _ t363 t366 t367 t368 t369 t370 t371 t372 t373 t374 t375 t376 (wrap64 ((wrap64 (((rd_T37 t363 (rd t378 x11_1)).f0) + ((rd_T37 t363 (rd t378 x11_1)).f1))) - x8_1)) (Int.tmod (wrap64 (a2)) (t360.length : Int)) t389 _ ?side1 ?side2 ?side3 ?side4 A54.out).mono ?_
                  (case side1 => repeat (first | exact (Kd.R_reads' HO_378000.out).2.2 | (with_reducible refine Kd.C_alloc ?_ _) | (with_reducible refine Kd.C_drewN ?_ _) | (with_reducible refine Kd.C_drew ?_)))
                  (case side2 => exact (Kd.R_reads' HO_378000.out).2.1)
                  (case side3 => repeat (first | exact (Kd.R_reads' HO_378001.out).2.2 | (with_reducible refine Kd.C_alloc ?_ _) | (with_reducible refine Kd.C_drewN ?_ _) | (with_reducible refine Kd.C_drew ?_)))
                  (case side4 => exact (Kd.R_reads' HO_378001.out).2.1)
                  rintro e w60 ⟨rfl, hb⟩
                  refine ⟨_, rfl, ?_⟩
                  have n0_ := Aside0.mk (Kd.R_below (by (with_reducible repeat (first | apply Kd.R_alloc | apply Kd.R_drewN | apply Kd.R_drew)); exact HO_10.out) hb)
                  have n1_ := Aside0.mk (Kd.R_below (by (with_reducible repeat (first | apply Kd.R_alloc | apply Kd.R_drewN | apply Kd.R_drew)); exact HO_378000.out) hb)
                  have n2_ := Aside0.mk (Kd.R_below (by (with_reducible repeat (first | apply Kd.R_alloc | apply Kd.R_drewN | apply Kd.R_drew)); exact HO_378001.out) hb)
                  have n3_ := Aside0.mk (blk_below (g := gb377) (o := .cells #[.slice Ao14 t360.length co14, .slice (some ad387) t363.length co16, .int .i64 t366, .int .i64 t367, .int .i64 t368, .int .i64 t369, .int .i64 t370, .int .i64 t371, .int .i64 t372, .int .i64 t373, .int .i64 t374, .int .i64 t375, .int .i64 t376] 25 (0, 0)) (by (with_reducible repeat (first | refine blk_drewN ?_ _ | refine blk_drew ?_ | refine blk_alloc ?_ _)); exact BK377.out) hb)
                  have n4_ := Aside0.mk (blk_below (g := gb388) (o := .cells #[.int .i64 ((rd_T37 t363 (rd t378 x11_1)).f0), .int .i64 ((rd_T37 t363 (rd t378 x11_1)).f1), .int .i64 ((rd_T37 t363 (rd t378 x11_1)).f2.f0), .int .i64 ((rd_T37 t363 (rd t378 x11_1)).f2.f1), .int .i64 ((rd_T37 t363 (rd t378 x11_1)).f3.f0), .int .i64 ((rd_T37 t363 (rd t378 x11_1)).f3.f1)] 37 (0, 0)) (by (with_reducible repeat (first | refine blk_drewN ?_ _ | refine blk_drew ?_ | refine blk_alloc ?_ _)); exact BK388.out) hb)
                  have n5_ := Aside0.mk (below_step (by repeat (first | (with_reducible first | exact HB.out | apply below_alloc | apply pw_below_drewN | apply below_drew1 | refine below_set ?_ GE377.out | refine below_set ?_ GE388.out) | exact HB.out)) hb)
                  clear HO_10
                  clear HO_378000
                  clear HO_378001
                  clear BK377
                  clear BK388
                  clear HB
                  have HO_10 := n0_
                  have HO_378000 := n1_
                  have HO_378001 := n2_
                  have BK377 := n3_
                  have BK388 := n4_
                  have HB := n5_
                  clear n0_ n1_ n2_ n3_ n4_ n5_
                  (try clear hb)
                  (try clear hb2)
                  (try clear hk)
                  (try clear hi)
                  refine hK.out _ _ ⟨(blk_cell BK377.out 0).trans rfl, (blk_cell BK377.out 1).trans rfl, (blk_cell BK377.out 2).trans rfl, (blk_cell BK377.out 3).trans rfl, (blk_cell BK377.out 4).trans rfl, (blk_cell BK377.out 5).trans rfl, (blk_cell BK377.out 6).trans rfl, (blk_cell BK377.out 7).trans rfl, (blk_cell BK377.out 8).trans rfl, (blk_cell BK377.out 9).trans rfl, (blk_cell BK377.out 10).trans rfl, (blk_cell BK377.out 11).trans rfl, (blk_cell BK377.out 12).trans rfl⟩ (fun hHeld => ?_)
                  clear hK K
                  refine norm_ (a' := ?_) ?_ ?_
                  rotate_left
                  ·show Act.put _ (some 101) _ = _
                   simp only [Act.put, sAa, sBb, sCc, i64_w, i32_w]
                   rfl
                  refine one_ (i := 7) (N := some 105) #[true, true, true, true, true, true, true, true, false, false] rfl rfl (one_of HT_.out (by kernel_rfl)) (by decide) (fun K hK => ?_)
                  refine goes_ Tryd.func11 (by kernel_rfl) rfl #[.agg #[.slice Ao14 t360.length co14, .slice (some ad387) t363.length co16, .int .i64 t366, .int .i64 t367, .int .i64 t368, .int .i64 t369, .int .i64 t370, .int .i64 t371, .int .i64 t372, .int .i64 t373, .int .i64 t374, .int .i64 t375, .int .i64 t376], .int .i64 x8_1, .int .i64 (Int.tmod (wrap64 (a2)) (t360.length : Int))] (by rfl) rfl rfl (by (try simp only [List.map_toArray, List.map_cons, List.map_nil]); first | done | rfl | (simp only [List.length_drop, List.length_take]; rfl)) ?_
                  with_reducible refine (hops_Dist.calls kj38 _ _ t360 _ _ t363 t366 t367 t368 t369 t370 t371 t372 t373 t374 t375 t376 x8_1 (Int.tmod (wrap64 (a2)) (t360.length : Int)) t390 _ ?side1 ?side2 ?side3 ?side4 A55.out).mono ?_
                  (case side1 => repeat (first | exact (Kd.R_reads' HO_378000.out).2.2 | (with_reducible refine Kd.C_alloc ?_ _) | (with_reducible refine Kd.C_drewN ?_ _) | (with_reducible refine Kd.C_drew ?_)))
                  (case side2 => exact (Kd.R_reads' HO_378000.out).2.1)
                  (case side3 => repeat (first | exact (Kd.R_reads' HO_378001.out).2.2 | (with_reducible refine Kd.C_alloc ?_ _) | (with_reducible refine Kd.C_drewN ?_ _) | (with_reducible refine Kd.C_drew ?_)))
                  (case side4 => exact (Kd.R_reads' HO_378001.out).2.1)
                  rintro e w61 ⟨rfl, hb⟩
                  refine ⟨_, rfl, ?_⟩
                  have n0_ := Aside0.mk (Kd.R_below (by (with_reducible repeat (first | apply Kd.R_alloc | apply Kd.R_drewN | apply Kd.R_drew)); exact HO_10.out) hb)
                  have n1_ := Aside0.mk (Kd.R_below (by (with_reducible repeat (first | apply Kd.R_alloc | apply Kd.R_drewN | apply Kd.R_drew)); exact HO_378000.out) hb)
                  have n2_ := Aside0.mk (Kd.R_below (by (with_reducible repeat (first | apply Kd.R_alloc | apply Kd.R_drewN | apply Kd.R_drew)); exact HO_378001.out) hb)
                  have n3_ := Aside0.mk (blk_below (g := gb377) (o := .cells #[.slice Ao14 t360.length co14, .slice (some ad387) t363.length co16, .int .i64 t366, .int .i64 t367, .int .i64 t368, .int .i64 t369, .int .i64 t370, .int .i64 t371, .int .i64 t372, .int .i64 t373, .int .i64 t374, .int .i64 t375, .int .i64 t376] 25 (0, 0)) (by (with_reducible repeat (first | refine blk_drewN ?_ _ | refine blk_drew ?_ | refine blk_alloc ?_ _)); exact BK377.out) hb)
                  have n4_ := Aside0.mk (blk_below (g := gb388) (o := .cells #[.int .i64 ((rd_T37 t363 (rd t378 x11_1)).f0), .int .i64 ((rd_T37 t363 (rd t378 x11_1)).f1), .int .i64 ((rd_T37 t363 (rd t378 x11_1)).f2.f0), .int .i64 ((rd_T37 t363 (rd t378 x11_1)).f2.f1), .int .i64 ((rd_T37 t363 (rd t378 x11_1)).f3.f0), .int .i64 ((rd_T37 t363 (rd t378 x11_1)).f3.f1)] 37 (0, 0)) (by (with_reducible repeat (first | refine blk_drewN ?_ _ | refine blk_drew ?_ | refine blk_alloc ?_ _)); exact BK388.out) hb)
                  have n5_ := Aside0.mk (below_step (by repeat (first | (with_reducible first | exact HB.out | apply below_alloc | apply pw_below_drewN | apply below_drew1 | refine below_set ?_ GE377.out | refine below_set ?_ GE388.out) | exact HB.out)) hb)
                  clear HO_10
                  clear HO_378000
                  clear HO_378001
                  clear BK377
                  clear BK388
                  clear HB
                  have HO_10 := n0_
                  have HO_378000 := n1_
                  have HO_378001 := n2_
                  have BK377 := n3_
                  have BK388 := n4_
                  have HB := n5_
                  clear n0_ n1_ n2_ n3_ n4_ n5_
                  (try clear hb)
                  (try clear hb2)
                  (try clear hk)
                  (try clear hi)
                  refine hK.out _ _ ⟨(blk_cell BK377.out 0).trans rfl, (blk_cell BK377.out 1).trans rfl, (blk_cell BK377.out 2).trans rfl, (blk_cell BK377.out 3).trans rfl, (blk_cell BK377.out 4).trans rfl, (blk_cell BK377.out 5).trans rfl, (blk_cell BK377.out 6).trans rfl, (blk_cell BK377.out 7).trans rfl, (blk_cell BK377.out 8).trans rfl, (blk_cell BK377.out 9).trans rfl, (blk_cell BK377.out 10).trans rfl, (blk_cell BK377.out 11).trans rfl, (blk_cell BK377.out 12).trans rfl⟩ (fun hHeld => ?_)
                  clear hK K
                  refine norm_ (a' := ?_) ?_ ?_
                  rotate_left
                  ·show Act.put _ (some 105) _ = _
                   simp only [Act.put, sAa, sBb, sCc, i64_w, i32_w]
                   rfl
                  refine pure_ (i := 8) (N := some 106) (v := ?_) (a' := ?_) #[true, true, true, true, true, true, true, true, true, false] rfl rfl (any_of HT_.out (by kernel_rfl)) (fun _ _ _ h => h) (Or.inl ⟨by rfl, ?_⟩) ?_ ?_
                  rotate_left
                  ·intro w'
                   go_simp
                   with_reducible rfl
                  rotate_left
                  ·simp only [Act.put, sAa, sBb, sCc, i64_w, i32_w]
                   rfl
                  refine pure_ (i := 9) (N := some 107) (v := ?_) (a' := ?_) #[true, true, true, true, true, true, true, true, true, true] rfl rfl (any_of HT_.out (by kernel_rfl)) (fun _ _ _ h => h) (Or.inl ⟨by rfl, ?_⟩) ?_ ?_
                  rotate_left
                  ·intro w'
                   go_simp
                   with_reducible rfl
                  rotate_left
                  ·simp only [Act.put, sAa, sBb, sCc, i64_w, i32_w]
                   rfl
                  refine done_ (done_of HT_.out (by kernel_rfl)) ?_
                  try go_wp2
                  go_roundg kj38
                  case measure => have := HK1.out; have := HJ24.out; have := HJ38.out; omega
                  case rel => exact ⟨(wrap64 ((wrap64 (((rd_T37 t363 (rd t378 x11_1)).f0) + ((rd_T37 t363 (rd t378 x11_1)).f1))) - x8_1)), (wrap64 (x11_1 + 1)), (by first | rfl | (simp; done) | (simp [*]; done) | (have := TNA.out; unfold wrap64; congr 1; omega) | (unfold wrap64; omega)), (by first | rfl | (simp; done) | (simp [*]; done) | (have := TNA.out; unfold wrap64; congr 1; omega) | (unfold wrap64; omega)), H', ⟨by have := HK1.out; have := HJ24.out; have := HJ38.out; omega⟩, ⟨by (with_reducible repeat (first | apply Kd.R_alloc | apply Kd.R_drewN | apply Kd.R_drew)); exact HO_10.out⟩, ⟨by (with_reducible repeat (first | apply Kd.R_alloc | apply Kd.R_drewN | apply Kd.R_drew)); exact HO_378000.out⟩, ⟨by (with_reducible repeat (first | apply Kd.R_alloc | apply Kd.R_drewN | apply Kd.R_drew)); exact Kd.R_mono HO_378001.out (fun _ hk => trivial)⟩, ⟨by (with_reducible repeat (first | refine blk_drewN ?_ _ | refine blk_drew ?_ | refine blk_alloc ?_ _)); exact BK377.out⟩, ⟨by repeat (first | (with_reducible first | exact HB.out | apply below_alloc | apply pw_below_drewN | apply below_drew1 | refine below_set ?_ GE377.out | refine below_set ?_ GE388.out) | exact HB.out)⟩⟩
                 ·rw [if_neg c56] at H
                  have c56b0 : (t389 == (wrap64 (t390 - 1))) = false := beq_eq_false_iff_ne.mpr c56
                  have c56b1 : (t389 != (wrap64 (t390 - 1))) = true := bne_iff_ne.mpr c56
                  obtain rfl := Option.some.inj H
                  have hnb62 := NB388_377.out
                  have hnc62 := NB377_388.out
                  obtain ⟨hcz63_0, hcz63_1, hcz63_2, hcz63_3, hcz63_4, hcz63_5⟩ := cellsK6 BK388.out
                  obtain ⟨hfz63_0, hfz63_1, hfz63_2, hfz63_3, hfz63_4, hfz63_5⟩ := frozK6 BK388.out
                  try go_wp2
                  have n0_ := Aside0.mk (Kd.R_drew HO_10.out)
                  have n1_ := Aside0.mk (Kd.R_drew HO_378000.out)
                  have n2_ := Aside0.mk (Kd.R_drew HO_378001.out)
                  have n3_ := Aside0.mk (blk_drew BK377.out)
                  have n4_ := Aside0.mk (blk_drew BK388.out)
                  have n5_ := Aside0.mk (below_drew1 HB.out)
                  clear HO_10
                  clear HO_378000
                  clear HO_378001
                  clear BK377
                  clear BK388
                  clear HB
                  have HO_10 := n0_
                  have HO_378000 := n1_
                  have HO_378001 := n2_
                  have BK377 := n3_
                  have BK388 := n4_
                  have HB := n5_
                  clear n0_ n1_ n2_ n3_ n4_ n5_
                  refine start_ (n := 10) (S := fun w' => w'.cell? ⟨gb377, 0, none⟩ = some (.slice Ao14 t360.length co14) ∧ w'.cell? ⟨gb377, 1, none⟩ = some (.slice (some ad387) t363.length co16) ∧ w'.cell? ⟨gb377, 2, none⟩ = some (.int .i64 t366) ∧ w'.cell? ⟨gb377, 3, none⟩ = some (.int .i64 t367) ∧ w'.cell? ⟨gb377, 4, none⟩ = some (.int .i64 t368) ∧ w'.cell? ⟨gb377, 5, none⟩ = some (.int .i64 t369) ∧ w'.cell? ⟨gb377, 6, none⟩ = some (.int .i64 t370) ∧ w'.cell? ⟨gb377, 7, none⟩ = some (.int .i64 t371) ∧ w'.cell? ⟨gb377, 8, none⟩ = some (.int .i64 t372) ∧ w'.cell? ⟨gb377, 9, none⟩ = some (.int .i64 t373) ∧ w'.cell? ⟨gb377, 10, none⟩ = some (.int .i64 t374) ∧ w'.cell? ⟨gb377, 11, none⟩ = some (.int .i64 t375) ∧ w'.cell? ⟨gb377, 12, none⟩ = some (.int .i64 t376)) (ds := []) #[false, false, false, false, false, false, false, false, false, false] (by kernel_rfl) rfl rfl ⟨(blk_cell BK377.out 0).trans rfl, (blk_cell BK377.out 1).trans rfl, (blk_cell BK377.out 2).trans rfl, (blk_cell BK377.out 3).trans rfl, (blk_cell BK377.out 4).trans rfl, (blk_cell BK377.out 5).trans rfl, (blk_cell BK377.out 6).trans rfl, (blk_cell BK377.out 7).trans rfl, (blk_cell BK377.out 8).trans rfl, (blk_cell BK377.out 9).trans rfl, (blk_cell BK377.out 10).trans rfl, (blk_cell BK377.out 11).trans rfl, (blk_cell BK377.out 12).trans rfl⟩ (fun hHeld => ?_); refine with_tabW drumlinelaw6_HopsSteps.tab17 drumlinelaw6_HopsSteps.bits17 (fun HT_ HW_ => ?_)
                  generalize wc.drew = w64 at HO_10 HO_378000 HO_378001 BK377 BK388 HB hHeld ⊢
                  refine pure_ (i := 1) (N := some 99) (v := ?_) (a' := ?_) #[false, true, false, false, false, false, false, false, false, false] rfl rfl (any_of HT_.out (by kernel_rfl)) (fun _ _ _ h => h) (Or.inl ⟨by rfl, ?_⟩) ?_ ?_
                  rotate_left
                  ·intro w'
                   go_simp
                   with_reducible rfl
                  rotate_left
                  ·simp only [Act.put, sAa, sBb, sCc, i64_w, i32_w]
                   rfl
                  refine pure_ (i := 2) (N := some 100) (v := ?_) (a' := ?_) #[false, true, true, false, false, false, false, false, false, false] rfl rfl (any_of HT_.out (by kernel_rfl)) (fun _ _ _ h => h) (Or.inl ⟨by rfl, ?_⟩) ?_ ?_
                  rotate_left
                  ·intro w'
                   go_simp
                   with_reducible rfl
                  rotate_left
                  ·simp only [Act.put, sAa, sBb, sCc, i64_w, i32_w]
                   rfl
                  refine pure_ (i := 5) (N := some 103) (v := ?_) (a' := ?_) #[false, true, true, false, false, true, false, false, false, false] rfl rfl (any_of HT_.out (by kernel_rfl)) (fun _ _ _ h => h) (Or.inl ⟨by rfl, ?_⟩) ?_ ?_
                  rotate_left
                  ·intro w'
                   go_simp
                   with_reducible rfl
                  rotate_left
                  ·simp only [Act.put, sAa, sBb, sCc, i64_w, i32_w]
                   rfl
                  refine pure_ (i := 6) (N := some 104) (v := ?_) (a' := ?_) #[false, true, true, false, false, true, true, false, false, false] rfl rfl (any_of HT_.out (by kernel_rfl)) (fun _ _ _ h => h) (Or.inl ⟨by rfl, ?_⟩) ?_ ?_
                  rotate_left
                  ·intro w'
                   go_simp
                   with_reducible rfl
                  rotate_left
                  ·simp only [Act.put, sAa, sBb, sCc, i64_w, i32_w]
                   rfl
                  refine take_ (i := 0) (N := some 98) (v := ?_) (a' := ?_) #[true, true, true, false, false, true, true, false, false, false] rfl rfl (take_ofW HT_.out HW_.out (by kernel_rfl)) (fun _ _ _ h => h) (Or.inl ⟨by rfl, ?_⟩) hHeld ?_ ?_
                  rotate_left
                  ·rintro w' ⟨s0, s1, s2, s3, s4, s5, s6, s7, s8, s9, s10, s11, s12⟩
                   go_simp
                   with_reducible rfl
                  rotate_left
                  ·simp only [Act.put, sAa, sBb, sCc, i64_w, i32_w]
                   rfl
                  refine take_ (i := 4) (N := some 102) (v := ?_) (a' := ?_) #[true, true, true, false, true, true, true, false, false, false] rfl rfl (take_ofW HT_.out HW_.out (by kernel_rfl)) (fun _ _ _ h => h) (Or.inl ⟨by rfl, ?_⟩) hHeld ?_ ?_
                  rotate_left
                  ·rintro w' ⟨s0, s1, s2, s3, s4, s5, s6, s7, s8, s9, s10, s11, s12⟩
                   go_simp
                   with_reducible rfl
                  rotate_left
                  ·simp only [Act.put, sAa, sBb, sCc, i64_w, i32_w]
                   rfl
                  refine one_ (i := 3) (N := some 101) #[true, true, true, true, true, true, true, false, false, false] rfl rfl (one_of HT_.out (by kernel_rfl)) (by decide) (fun K hK => ?_)
                  refine goes_ Tryd.func11 (by kernel_rfl) rfl #[.agg #[.slice Ao14 t360.length co14, .slice (some ad387) t363.length co16, .int .i64 t366, .int .i64 t367, .int .i64 t368, .int .i64 t369, .int .i64 t370, .int .i64 t371, .int .i64 t372, .int .i64 t373, .int .i64 t374, .int .i64 t375, .int .i64 t376], .int .i64 (wrap64 ((wrap64 (((rd_T37 t363 (rd t378 x11_1)).f0) + ((rd_T37 t363 (rd t378 x11_1)).f1))) - x8_1)), .int .i64 (Int.tmod (wrap64 (a2)) (t360.length : Int))] (by rfl) rfl rfl (by (try simp only [List.map_toArray, List.map_cons, List.map_nil]); first | done | rfl | (simp only [List.length_drop, List.length_take]; rfl)) ?_
                  with_reducible refine (hops_Dist.calls kj38 _ _ t360 _ _ t363 t366 t367 t368 t369 t370 t371 t372 t373 t374 t375 t376 (wrap64 ((wrap64 (((rd_T37 t363 (rd t378 x11_1)).f0) + ((rd_T37 t363 (rd t378 x11_1)).f1))) - x8_1)) (Int.tmod (wrap64 (a2)) (t360.length : Int)) t389 _ ?side1 ?side2 ?side3 ?side4 A54.out).mono ?_
                  (case side1 => repeat (first | exact (Kd.R_reads' HO_378000.out).2.2 | (with_reducible refine Kd.C_alloc ?_ _) | (with_reducible refine Kd.C_drewN ?_ _) | (with_reducible refine Kd.C_drew ?_)))
                  (case side2 => exact (Kd.R_reads' HO_378000.out).2.1)
                  (case side3 => repeat (first | exact (Kd.R_reads' HO_378001.out).2.2 | (with_reducible refine Kd.C_alloc ?_ _) | (with_reducible refine Kd.C_drewN ?_ _) | (with_reducible refine Kd.C_drew ?_)))
                  (case side4 => exact (Kd.R_reads' HO_378001.out).2.1)
                  rintro e w65 ⟨rfl, hb⟩
                  refine ⟨_, rfl, ?_⟩
                  have n0_ := Aside0.mk (Kd.R_below (by (with_reducible repeat (first | apply Kd.R_alloc | apply Kd.R_drewN | apply Kd.R_drew)); exact HO_10.out) hb)
                  have n1_ := Aside0.mk (Kd.R_below (by (with_reducible repeat (first | apply Kd.R_alloc | apply Kd.R_drewN | apply Kd.R_drew)); exact HO_378000.out) hb)
                  have n2_ := Aside0.mk (Kd.R_below (by (with_reducible repeat (first | apply Kd.R_alloc | apply Kd.R_drewN | apply Kd.R_drew)); exact HO_378001.out) hb)
                  have n3_ := Aside0.mk (blk_below (g := gb377) (o := .cells #[.slice Ao14 t360.length co14, .slice (some ad387) t363.length co16, .int .i64 t366, .int .i64 t367, .int .i64 t368, .int .i64 t369, .int .i64 t370, .int .i64 t371, .int .i64 t372, .int .i64 t373, .int .i64 t374, .int .i64 t375, .int .i64 t376] 25 (0, 0)) (by (with_reducible repeat (first | refine blk_drewN ?_ _ | refine blk_drew ?_ | refine blk_alloc ?_ _)); exact BK377.out) hb)
                  have n4_ := Aside0.mk (blk_below (g := gb388) (o := .cells #[.int .i64 ((rd_T37 t363 (rd t378 x11_1)).f0), .int .i64 ((rd_T37 t363 (rd t378 x11_1)).f1), .int .i64 ((rd_T37 t363 (rd t378 x11_1)).f2.f0), .int .i64 ((rd_T37 t363 (rd t378 x11_1)).f2.f1), .int .i64 ((rd_T37 t363 (rd t378 x11_1)).f3.f0), .int .i64 ((rd_T37 t363 (rd t378 x11_1)).f3.f1)] 37 (0, 0)) (by (with_reducible repeat (first | refine blk_drewN ?_ _ | refine blk_drew ?_ | refine blk_alloc ?_ _)); exact BK388.out) hb)
                  have n5_ := Aside0.mk (below_step (by repeat (first | (with_reducible first | exact HB.out | apply below_alloc | apply pw_below_drewN | apply below_drew1 | refine below_set ?_ GE377.out | refine below_set ?_ GE388.out) | exact HB.out)) hb)
                  clear HO_10
                  clear HO_378000
                  clear HO_378001
                  clear BK377
                  clear BK388
                  clear HB
                  have HO_10 := n0_
                  have HO_378000 := n1_
                  have HO_378001 := n2_
                  have BK377 := n3_
                  have BK388 := n4_
                  have HB := n5_
                  clear n0_ n1_ n2_ n3_ n4_ n5_
                  (try clear hb)
                  (try clear hb2)
                  (try clear hk)
                  (try clear hi)
                  refine hK.out _ _ ⟨(blk_cell BK377.out 0).trans rfl, (blk_cell BK377.out 1).trans rfl, (blk_cell BK377.out 2).trans rfl, (blk_cell BK377.out 3).trans rfl, (blk_cell BK377.out 4).trans rfl, (blk_cell BK377.out 5).trans rfl, (blk_cell BK377.out 6).trans rfl, (blk_cell BK377.out 7).trans rfl, (blk_cell BK377.out 8).trans rfl, (blk_cell BK377.out 9).trans rfl, (blk_cell BK377.out 10).trans rfl, (blk_cell BK377.out 11).trans rfl, (blk_cell BK377.out 12).trans rfl⟩ (fun hHeld => ?_)
                  clear hK K
                  refine norm_ (a' := ?_) ?_ ?_
                  rotate_left
                  ·show Act.put _ (some 101) _ = _
                   simp only [Act.put, sAa, sBb, sCc, i64_w, i32_w]
                   rfl
                  refine one_ (i := 7) (N := some 105) #[true, true, true, true, true, true, true, true, false, false] rfl rfl (one_of HT_.out (by kernel_rfl)) (by decide) (fun K hK => ?_)
                  refine goes_ Tryd.func11 (by kernel_rfl) rfl #[.agg #[.slice Ao14 t360.length co14, .slice (some ad387) t363.length co16, .int .i64 t366, .int .i64 t367, .int .i64 t368, .int .i64 t369, .int .i64 t370, .int .i64 t371, .int .i64 t372, .int .i64 t373, .int .i64 t374, .int .i64 t375, .int .i64 t376], .int .i64 x8_1, .int .i64 (Int.tmod (wrap64 (a2)) (t360.length : Int))] (by rfl) rfl rfl (by (try simp only [List.map_toArray, List.map_cons, List.map_nil]); first | done | rfl | (simp only [List.length_drop, List.length_take]; rfl)) ?_
                  with_reducible refine (hops_Dist.calls kj38 _ _ t360 _ _ t363 t366 t367 t368 t369 t370 t371 t372 t373 t374 t375 t376 x8_1 (Int.tmod (wrap64 (a2)) (t360.length : Int)) t390 _ ?side1 ?side2 ?side3 ?side4 A55.out).mono ?_
                  (case side1 => repeat (first | exact (Kd.R_reads' HO_378000.out).2.2 | (with_reducible refine Kd.C_alloc ?_ _) | (with_reducible refine Kd.C_drewN ?_ _) | (with_reducible refine Kd.C_drew ?_)))
                  (case side2 => exact (Kd.R_reads' HO_378000.out).2.1)
                  (case side3 => repeat (first | exact (Kd.R_reads' HO_378001.out).2.2 | (with_reducible refine Kd.C_alloc ?_ _) | (with_reducible refine Kd.C_drewN ?_ _) | (with_reducible refine Kd.C_drew ?_)))
                  (case side4 => exact (Kd.R_reads' HO_378001.out).2.1)
                  rintro e w66 ⟨rfl, hb⟩
                  refine ⟨_, rfl, ?_⟩
                  have n0_ := Aside0.mk (Kd.R_below (by (with_reducible repeat (first | apply Kd.R_alloc | apply Kd.R_drewN | apply Kd.R_drew)); exact HO_10.out) hb)
                  have n1_ := Aside0.mk (Kd.R_below (by (with_reducible repeat (first | apply Kd.R_alloc | apply Kd.R_drewN | apply Kd.R_drew)); exact HO_378000.out) hb)
                  have n2_ := Aside0.mk (Kd.R_below (by (with_reducible repeat (first | apply Kd.R_alloc | apply Kd.R_drewN | apply Kd.R_drew)); exact HO_378001.out) hb)
                  have n3_ := Aside0.mk (blk_below (g := gb377) (o := .cells #[.slice Ao14 t360.length co14, .slice (some ad387) t363.length co16, .int .i64 t366, .int .i64 t367, .int .i64 t368, .int .i64 t369, .int .i64 t370, .int .i64 t371, .int .i64 t372, .int .i64 t373, .int .i64 t374, .int .i64 t375, .int .i64 t376] 25 (0, 0)) (by (with_reducible repeat (first | refine blk_drewN ?_ _ | refine blk_drew ?_ | refine blk_alloc ?_ _)); exact BK377.out) hb)
                  have n4_ := Aside0.mk (blk_below (g := gb388) (o := .cells #[.int .i64 ((rd_T37 t363 (rd t378 x11_1)).f0), .int .i64 ((rd_T37 t363 (rd t378 x11_1)).f1), .int .i64 ((rd_T37 t363 (rd t378 x11_1)).f2.f0), .int .i64 ((rd_T37 t363 (rd t378 x11_1)).f2.f1), .int .i64 ((rd_T37 t363 (rd t378 x11_1)).f3.f0), .int .i64 ((rd_T37 t363 (rd t378 x11_1)).f3.f1)] 37 (0, 0)) (by (with_reducible repeat (first | refine blk_drewN ?_ _ | refine blk_drew ?_ | refine blk_alloc ?_ _)); exact BK388.out) hb)
                  have n5_ := Aside0.mk (below_step (by repeat (first | (with_reducible first | exact HB.out | apply below_alloc | apply pw_below_drewN | apply below_drew1 | refine below_set ?_ GE377.out | refine below_set ?_ GE388.out) | exact HB.out)) hb)
                  clear HO_10
                  clear HO_378000
                  clear HO_378001
                  clear BK377
                  clear BK388
                  clear HB
                  have HO_10 := n0_
                  have HO_378000 := n1_
                  have HO_378001 := n2_
                  have BK377 := n3_
                  have BK388 := n4_
                  have HB := n5_
                  clear n0_ n1_ n2_ n3_ n4_ n5_
                  (try clear hb)
                  (try clear hb2)
                  (try clear hk)
                  (try clear hi)
                  refine hK.out _ _ ⟨(blk_cell BK377.out 0).trans rfl, (blk_cell BK377.out 1).trans rfl, (blk_cell BK377.out 2).trans rfl, (blk_cell BK377.out 3).trans rfl, (blk_cell BK377.out 4).trans rfl, (blk_cell BK377.out 5).trans rfl, (blk_cell BK377.out 6).trans rfl, (blk_cell BK377.out 7).trans rfl, (blk_cell BK377.out 8).trans rfl, (blk_cell BK377.out 9).trans rfl, (blk_cell BK377.out 10).trans rfl, (blk_cell BK377.out 11).trans rfl, (blk_cell BK377.out 12).trans rfl⟩ (fun hHeld => ?_)
                  clear hK K
                  refine norm_ (a' := ?_) ?_ ?_
                  rotate_left
                  ·show Act.put _ (some 105) _ = _
                   simp only [Act.put, sAa, sBb, sCc, i64_w, i32_w]
                   rfl
                  refine pure_ (i := 8) (N := some 106) (v := ?_) (a' := ?_) #[true, true, true, true, true, true, true, true, true, false] rfl rfl (any_of HT_.out (by kernel_rfl)) (fun _ _ _ h => h) (Or.inl ⟨by rfl, ?_⟩) ?_ ?_
                  rotate_left
                  ·intro w'
                   go_simp
                   with_reducible rfl
                  rotate_left
                  ·simp only [Act.put, sAa, sBb, sCc, i64_w, i32_w]
                   rfl
                  refine pure_ (i := 9) (N := some 107) (v := ?_) (a' := ?_) #[true, true, true, true, true, true, true, true, true, true] rfl rfl (any_of HT_.out (by kernel_rfl)) (fun _ _ _ h => h) (Or.inl ⟨by rfl, ?_⟩) ?_ ?_
                  rotate_left
                  ·intro w'
                   go_simp
                   with_reducible rfl
                  rotate_left
                  ·simp only [Act.put, sAa, sBb, sCc, i64_w, i32_w]
                   rfl
                  refine done_ (done_of HT_.out (by kernel_rfl)) ?_
                  try go_wp2
                  go_ret
                  exact ⟨by first | rfl | (simp [errW_none, errW_some] <;> rfl) | (simp [*, errW_none, errW_some] <;> rfl), by repeat (first | (with_reducible first | exact HB.out | apply below_alloc | apply pw_below_drewN | apply below_drew1 | refine below_set ?_ GE377.out | refine below_set ?_ GE388.out) | exact HB.out)⟩
             ·rw [if_neg c38] at H
              exact absurd H (by simp)
            ·rw [if_neg c37] at H
             exact absurd H (by simp)
           ·rw [if_neg c36] at H
            exact absurd H (by simp)
          ·rw [if_neg c35] at H
           exact absurd H (by simp)
      ·rw [if_neg c24] at H
       have c24b0 : decide (x11_1 < (t378.length : Int)) = false := decide_eq_false c24
       clear c24
       obtain rfl := Option.some.inj H
       go_wp2
       go_ret
       exact ⟨by first | rfl | (simp [errW_none, errW_some] <;> rfl) | (simp [*, errW_none, errW_some] <;> rfl), by repeat (first | (with_reducible first | exact HB.out | apply below_alloc | apply pw_below_drewN | apply below_drew1 | refine below_set ?_ GE377.out) | exact HB.out)⟩
   ·rw [if_neg c10] at H
    have c10b0 : ((t378.length : Int) == t381) = false := beq_eq_false_iff_ne.mpr c10
    have c10b1 : ((t378.length : Int) != t381) = true := bne_iff_ne.mpr c10
    obtain rfl := Option.some.inj H
    go_enter Tryd.func5, Tryd.ntmps5
    try go_wp2_with (first | ((with_reducible refine gate_callee (f := 10) rfl ?_); refine goesL_ (some 14) rfl rfl Tryd.func10 (by kernel_rfl) rfl #[] rfl (by (try simp only [List.map_toArray, List.map_cons, List.map_nil]); first | done | rfl | (simp only [List.length_drop, List.length_take]; rfl)) ?_; (with_reducible refine (drumlinelaw6_alive.calls k  true _ A4.out).mono ?_); rintro e w67 ⟨rfl, hb⟩; refine ⟨_, rfl, ?_⟩; have n0_ := Aside0.mk (below_step (by repeat (first | (with_reducible first | exact HB.out | apply below_alloc | apply pw_below_drewN | apply below_drew1) | exact HB.out)) hb); clear HB; have HB := n0_; clear n0_; (try clear hb); (try clear hb2); (try clear hk); (try clear hi)) | ((with_reducible refine gate_callee (f := 20) rfl ?_); refine goesL_ (some 17) rfl rfl Tryd.func20 (by kernel_rfl) rfl #[.int .i64 a0] rfl (by (try simp only [List.map_toArray, List.map_cons, List.map_nil]); first | done | rfl | (simp only [List.length_drop, List.length_take]; rfl)) ?_; (with_reducible refine (drumlineref26_Made.calls a0 t360 t363 t366 t367 t368 t369 t370 t371 t372 t373 t374 t375 t376 _ A6.out).mono ?_); rintro e w68 ⟨v361, v364, rfl, ho0, ho1, hb⟩; refine ⟨_, rfl, ?_⟩; have n0_ := Aside0.mk (Kd.R_lower ho0 (below_size (by repeat (first | (with_reducible first | exact HB.out | apply below_alloc | apply pw_below_drewN | apply below_drew1) | exact HB.out)))); have n1_ := Aside0.mk (Kd.R_lower ho1 (below_size (by repeat (first | (with_reducible first | exact HB.out | apply below_alloc | apply pw_below_drewN | apply below_drew1) | exact HB.out)))); have n2_ := Aside0.mk (below_step (by repeat (first | (with_reducible first | exact HB.out | apply below_alloc | apply pw_below_drewN | apply below_drew1) | exact HB.out)) hb); clear HB; have HO362 := n0_; have HO365 := n1_; have HB := n2_; clear n0_ n1_ n2_; (try clear hb); (try clear hb2); (try clear hk); (try clear hi); (try clear ho0); (try clear ho1)) | ((with_reducible refine gate_dst (N := 7) rfl ?_); (try (refine gate_guard (by rfl) ?_; dsimp only)); refine box_event ?hg (N := 7) ?hd (cs := #[.slice none 0 0, .slice none 0 0, .int .i64 0, .int .i64 0, .int .i64 0, .int .i64 0, .int .i64 0, .int .i64 0, .int .i64 0, .int .i64 0, .int .i64 0, .int .i64 0, .int .i64 0]) (t := 25) ?hr ?_; (case hd => rfl); (case hg => rfl); (case hr => first | (go_simp; done) | (go_simp; rfl)); intro gb377 hg w69 hbox hb; have n0_ := Aside0.mk (Kd.R_below (by (with_reducible repeat (first | apply Kd.R_alloc | apply Kd.R_drewN | apply Kd.R_drew)); exact HO362.out) hb); have n1_ := Aside0.mk (Kd.R_below (by (with_reducible repeat (first | apply Kd.R_alloc | apply Kd.R_drewN | apply Kd.R_drew)); exact HO365.out) hb); have n2_ := Aside0.mk (below_step (by repeat (first | (with_reducible first | exact HB.out | apply below_alloc | apply pw_below_drewN | apply below_drew1) | exact HB.out)) hb); have n3_ := Aside0.mk (hbox); have n4_ := Aside0.mk ((by rw [hg]; exact (below_size (by repeat (first | (with_reducible first | exact HB.out | apply below_alloc | apply pw_below_drewN | apply below_drew1) | exact HB.out))) : w.heap.size ≤ gb377)); have n5_ := Aside0.mk ((by rw [hg]; exact (below_size (by repeat (first | (with_reducible first | exact HB.out | apply below_alloc | apply pw_below_drewN | apply below_drew1) | exact HB.out))) : w.heap.size ≤ gb377)); clear HO362; clear HO365; clear HB; have HO362 := n0_; have HO365 := n1_; have HB := n2_; have BK377 := n3_; have GW377 := n4_; have GE377 := n5_; clear n0_ n1_ n2_ n3_ n4_ n5_; clear hb hbox hg; obtain ⟨Ao70, co70, eo70⟩ := Kd.R_slice HO362.out; subst eo70; obtain ⟨hcz71_0, hcz71_1, hcz71_2, hcz71_3, hcz71_4, hcz71_5, hcz71_6, hcz71_7, hcz71_8, hcz71_9, hcz71_10, hcz71_11, hcz71_12⟩ := cellsK13 BK377.out; obtain ⟨hfz71_0, hfz71_1, hfz71_2, hfz71_3, hfz71_4, hfz71_5, hfz71_6, hfz71_7, hfz71_8, hfz71_9, hfz71_10, hfz71_11, hfz71_12⟩ := frozK13 BK377.out; obtain ⟨Ao72, co72, eo72⟩ := Kd.R_slice HO365.out; subst eo72))
    have n0_ : Aside0 (Kd.R k60 60 (((((((((((((w69.setCell ⟨gb377, 0, none⟩ (.slice Ao70 t360.length co70)).setCell ⟨gb377, 1, none⟩ (.slice Ao72 t363.length co72)).setCell ⟨gb377, 2, none⟩ (.int .i64 t366)).setCell ⟨gb377, 3, none⟩ (.int .i64 t367)).setCell ⟨gb377, 4, none⟩ (.int .i64 t368)).setCell ⟨gb377, 5, none⟩ (.int .i64 t369)).setCell ⟨gb377, 6, none⟩ (.int .i64 t370)).setCell ⟨gb377, 7, none⟩ (.int .i64 t371)).setCell ⟨gb377, 8, none⟩ (.int .i64 t372)).setCell ⟨gb377, 9, none⟩ (.int .i64 t373)).setCell ⟨gb377, 10, none⟩ (.int .i64 t374)).setCell ⟨gb377, 11, none⟩ (.int .i64 t375)).setCell ⟨gb377, 12, none⟩ (.int .i64 t376)) w.heap.size (fun _ => True) (.slice Ao70 t360.length co70) t360) := ⟨by (with_reducible repeat (first | apply Kd.R_alloc | apply Kd.R_drewN | apply Kd.R_drew)); exact Kd.R_mono (Kd.R_far (p := ⟨gb377, 12, none⟩) (Kd.R_far (p := ⟨gb377, 11, none⟩) (Kd.R_far (p := ⟨gb377, 10, none⟩) (Kd.R_far (p := ⟨gb377, 9, none⟩) (Kd.R_far (p := ⟨gb377, 8, none⟩) (Kd.R_far (p := ⟨gb377, 7, none⟩) (Kd.R_far (p := ⟨gb377, 6, none⟩) (Kd.R_far (p := ⟨gb377, 5, none⟩) (Kd.R_far (p := ⟨gb377, 4, none⟩) (Kd.R_far (p := ⟨gb377, 3, none⟩) (Kd.R_far (p := ⟨gb377, 2, none⟩) (Kd.R_far (p := ⟨gb377, 1, none⟩) (Kd.R_far (p := ⟨gb377, 0, none⟩) (Kd.R_types HO362.out BK377.out (by decide)) (fun _ hk => hk.2) (.slice Ao70 t360.length co70)) (fun _ hk => hk.2) (.slice Ao72 t363.length co72)) (fun _ hk => hk.2) (.int .i64 t366)) (fun _ hk => hk.2) (.int .i64 t367)) (fun _ hk => hk.2) (.int .i64 t368)) (fun _ hk => hk.2) (.int .i64 t369)) (fun _ hk => hk.2) (.int .i64 t370)) (fun _ hk => hk.2) (.int .i64 t371)) (fun _ hk => hk.2) (.int .i64 t372)) (fun _ hk => hk.2) (.int .i64 t373)) (fun _ hk => hk.2) (.int .i64 t374)) (fun _ hk => hk.2) (.int .i64 t375)) (fun _ hk => hk.2) (.int .i64 t376)) (fun _ hk => trivial)⟩
    have n1_ : Aside0 (Kd.R k37 37 (((((((((((((w69.setCell ⟨gb377, 0, none⟩ (.slice Ao70 t360.length co70)).setCell ⟨gb377, 1, none⟩ (.slice Ao72 t363.length co72)).setCell ⟨gb377, 2, none⟩ (.int .i64 t366)).setCell ⟨gb377, 3, none⟩ (.int .i64 t367)).setCell ⟨gb377, 4, none⟩ (.int .i64 t368)).setCell ⟨gb377, 5, none⟩ (.int .i64 t369)).setCell ⟨gb377, 6, none⟩ (.int .i64 t370)).setCell ⟨gb377, 7, none⟩ (.int .i64 t371)).setCell ⟨gb377, 8, none⟩ (.int .i64 t372)).setCell ⟨gb377, 9, none⟩ (.int .i64 t373)).setCell ⟨gb377, 10, none⟩ (.int .i64 t374)).setCell ⟨gb377, 11, none⟩ (.int .i64 t375)).setCell ⟨gb377, 12, none⟩ (.int .i64 t376)) w.heap.size (fun _ => True) (.slice Ao72 t363.length co72) t363) := ⟨by (with_reducible repeat (first | apply Kd.R_alloc | apply Kd.R_drewN | apply Kd.R_drew)); exact Kd.R_mono (Kd.R_far (p := ⟨gb377, 12, none⟩) (Kd.R_far (p := ⟨gb377, 11, none⟩) (Kd.R_far (p := ⟨gb377, 10, none⟩) (Kd.R_far (p := ⟨gb377, 9, none⟩) (Kd.R_far (p := ⟨gb377, 8, none⟩) (Kd.R_far (p := ⟨gb377, 7, none⟩) (Kd.R_far (p := ⟨gb377, 6, none⟩) (Kd.R_far (p := ⟨gb377, 5, none⟩) (Kd.R_far (p := ⟨gb377, 4, none⟩) (Kd.R_far (p := ⟨gb377, 3, none⟩) (Kd.R_far (p := ⟨gb377, 2, none⟩) (Kd.R_far (p := ⟨gb377, 1, none⟩) (Kd.R_far (p := ⟨gb377, 0, none⟩) (Kd.R_types HO365.out BK377.out (by decide)) (fun _ hk => hk.2) (.slice Ao70 t360.length co70)) (fun _ hk => hk.2) (.slice Ao72 t363.length co72)) (fun _ hk => hk.2) (.int .i64 t366)) (fun _ hk => hk.2) (.int .i64 t367)) (fun _ hk => hk.2) (.int .i64 t368)) (fun _ hk => hk.2) (.int .i64 t369)) (fun _ hk => hk.2) (.int .i64 t370)) (fun _ hk => hk.2) (.int .i64 t371)) (fun _ hk => hk.2) (.int .i64 t372)) (fun _ hk => hk.2) (.int .i64 t373)) (fun _ hk => hk.2) (.int .i64 t374)) (fun _ hk => hk.2) (.int .i64 t375)) (fun _ hk => hk.2) (.int .i64 t376)) (fun _ hk => trivial)⟩
    have n2_ : Aside0 ((((((((((((((w69.setCell ⟨gb377, 0, none⟩ (.slice Ao70 t360.length co70)).setCell ⟨gb377, 1, none⟩ (.slice Ao72 t363.length co72)).setCell ⟨gb377, 2, none⟩ (.int .i64 t366)).setCell ⟨gb377, 3, none⟩ (.int .i64 t367)).setCell ⟨gb377, 4, none⟩ (.int .i64 t368)).setCell ⟨gb377, 5, none⟩ (.int .i64 t369)).setCell ⟨gb377, 6, none⟩ (.int .i64 t370)).setCell ⟨gb377, 7, none⟩ (.int .i64 t371)).setCell ⟨gb377, 8, none⟩ (.int .i64 t372)).setCell ⟨gb377, 9, none⟩ (.int .i64 t373)).setCell ⟨gb377, 10, none⟩ (.int .i64 t374)).setCell ⟨gb377, 11, none⟩ (.int .i64 t375)).setCell ⟨gb377, 12, none⟩ (.int .i64 t376)).heap[gb377]? = some (.cells #[.slice Ao70 t360.length co70, .slice Ao72 t363.length co72, .int .i64 t366, .int .i64 t367, .int .i64 t368, .int .i64 t369, .int .i64 t370, .int .i64 t371, .int .i64 t372, .int .i64 t373, .int .i64 t374, .int .i64 t375, .int .i64 t376] 25 (0, 0))) := ⟨by (with_reducible repeat (first | refine blk_drewN ?_ _ | refine blk_drew ?_ | refine blk_alloc ?_ _)); refine blk_put (cs := #[.slice Ao70 t360.length co70, .slice Ao72 t363.length co72, .int .i64 t366, .int .i64 t367, .int .i64 t368, .int .i64 t369, .int .i64 t370, .int .i64 t371, .int .i64 t372, .int .i64 t373, .int .i64 t374, .int .i64 t375, .int .i64 0]) ?_ 12 _ rfl; (with_reducible repeat (first | refine blk_drewN ?_ _ | refine blk_drew ?_ | refine blk_alloc ?_ _)); refine blk_put (cs := #[.slice Ao70 t360.length co70, .slice Ao72 t363.length co72, .int .i64 t366, .int .i64 t367, .int .i64 t368, .int .i64 t369, .int .i64 t370, .int .i64 t371, .int .i64 t372, .int .i64 t373, .int .i64 t374, .int .i64 0, .int .i64 0]) ?_ 11 _ rfl; (with_reducible repeat (first | refine blk_drewN ?_ _ | refine blk_drew ?_ | refine blk_alloc ?_ _)); refine blk_put (cs := #[.slice Ao70 t360.length co70, .slice Ao72 t363.length co72, .int .i64 t366, .int .i64 t367, .int .i64 t368, .int .i64 t369, .int .i64 t370, .int .i64 t371, .int .i64 t372, .int .i64 t373, .int .i64 0, .int .i64 0, .int .i64 0]) ?_ 10 _ rfl; (with_reducible repeat (first | refine blk_drewN ?_ _ | refine blk_drew ?_ | refine blk_alloc ?_ _)); refine blk_put (cs := #[.slice Ao70 t360.length co70, .slice Ao72 t363.length co72, .int .i64 t366, .int .i64 t367, .int .i64 t368, .int .i64 t369, .int .i64 t370, .int .i64 t371, .int .i64 t372, .int .i64 0, .int .i64 0, .int .i64 0, .int .i64 0]) ?_ 9 _ rfl; (with_reducible repeat (first | refine blk_drewN ?_ _ | refine blk_drew ?_ | refine blk_alloc ?_ _)); refine blk_put (cs := #[.slice Ao70 t360.length co70, .slice Ao72 t363.length co72, .int .i64 t366, .int .i64 t367, .int .i64 t368, .int .i64 t369, .int .i64 t370, .int .i64 t371, .int .i64 0, .int .i64 0, .int .i64 0, .int .i64 0, .int .i64 0]) ?_ 8 _ rfl; (with_reducible repeat (first | refine blk_drewN ?_ _ | refine blk_drew ?_ | refine blk_alloc ?_ _)); refine blk_put (cs := #[.slice Ao70 t360.length co70, .slice Ao72 t363.length co72, .int .i64 t366, .int .i64 t367, .int .i64 t368, .int .i64 t369, .int .i64 t370, .int .i64 0, .int .i64 0, .int .i64 0, .int .i64 0, .int .i64 0, .int .i64 0]) ?_ 7 _ rfl; (with_reducible repeat (first | refine blk_drewN ?_ _ | refine blk_drew ?_ | refine blk_alloc ?_ _)); refine blk_put (cs := #[.slice Ao70 t360.length co70, .slice Ao72 t363.length co72, .int .i64 t366, .int .i64 t367, .int .i64 t368, .int .i64 t369, .int .i64 0, .int .i64 0, .int .i64 0, .int .i64 0, .int .i64 0, .int .i64 0, .int .i64 0]) ?_ 6 _ rfl; (with_reducible repeat (first | refine blk_drewN ?_ _ | refine blk_drew ?_ | refine blk_alloc ?_ _)); refine blk_put (cs := #[.slice Ao70 t360.length co70, .slice Ao72 t363.length co72, .int .i64 t366, .int .i64 t367, .int .i64 t368, .int .i64 0, .int .i64 0, .int .i64 0, .int .i64 0, .int .i64 0, .int .i64 0, .int .i64 0, .int .i64 0]) ?_ 5 _ rfl; (with_reducible repeat (first | refine blk_drewN ?_ _ | refine blk_drew ?_ | refine blk_alloc ?_ _)); refine blk_put (cs := #[.slice Ao70 t360.length co70, .slice Ao72 t363.length co72, .int .i64 t366, .int .i64 t367, .int .i64 0, .int .i64 0, .int .i64 0, .int .i64 0, .int .i64 0, .int .i64 0, .int .i64 0, .int .i64 0, .int .i64 0]) ?_ 4 _ rfl; (with_reducible repeat (first | refine blk_drewN ?_ _ | refine blk_drew ?_ | refine blk_alloc ?_ _)); refine blk_put (cs := #[.slice Ao70 t360.length co70, .slice Ao72 t363.length co72, .int .i64 t366, .int .i64 0, .int .i64 0, .int .i64 0, .int .i64 0, .int .i64 0, .int .i64 0, .int .i64 0, .int .i64 0, .int .i64 0, .int .i64 0]) ?_ 3 _ rfl; (with_reducible repeat (first | refine blk_drewN ?_ _ | refine blk_drew ?_ | refine blk_alloc ?_ _)); refine blk_put (cs := #[.slice Ao70 t360.length co70, .slice Ao72 t363.length co72, .int .i64 0, .int .i64 0, .int .i64 0, .int .i64 0, .int .i64 0, .int .i64 0, .int .i64 0, .int .i64 0, .int .i64 0, .int .i64 0, .int .i64 0]) ?_ 2 _ rfl; (with_reducible repeat (first | refine blk_drewN ?_ _ | refine blk_drew ?_ | refine blk_alloc ?_ _)); refine blk_put (cs := #[.slice Ao70 t360.length co70, .slice none 0 0, .int .i64 0, .int .i64 0, .int .i64 0, .int .i64 0, .int .i64 0, .int .i64 0, .int .i64 0, .int .i64 0, .int .i64 0, .int .i64 0, .int .i64 0]) ?_ 1 _ rfl; (with_reducible repeat (first | refine blk_drewN ?_ _ | refine blk_drew ?_ | refine blk_alloc ?_ _)); refine blk_put (cs := #[.slice none 0 0, .slice none 0 0, .int .i64 0, .int .i64 0, .int .i64 0, .int .i64 0, .int .i64 0, .int .i64 0, .int .i64 0, .int .i64 0, .int .i64 0, .int .i64 0, .int .i64 0]) ?_ 0 _ rfl; (with_reducible repeat (first | refine blk_drewN ?_ _ | refine blk_drew ?_ | refine blk_alloc ?_ _)); exact BK377.out⟩
    have n3_ : Aside0 (Below w.heap.size w (((((((((((((w69.setCell ⟨gb377, 0, none⟩ (.slice Ao70 t360.length co70)).setCell ⟨gb377, 1, none⟩ (.slice Ao72 t363.length co72)).setCell ⟨gb377, 2, none⟩ (.int .i64 t366)).setCell ⟨gb377, 3, none⟩ (.int .i64 t367)).setCell ⟨gb377, 4, none⟩ (.int .i64 t368)).setCell ⟨gb377, 5, none⟩ (.int .i64 t369)).setCell ⟨gb377, 6, none⟩ (.int .i64 t370)).setCell ⟨gb377, 7, none⟩ (.int .i64 t371)).setCell ⟨gb377, 8, none⟩ (.int .i64 t372)).setCell ⟨gb377, 9, none⟩ (.int .i64 t373)).setCell ⟨gb377, 10, none⟩ (.int .i64 t374)).setCell ⟨gb377, 11, none⟩ (.int .i64 t375)).setCell ⟨gb377, 12, none⟩ (.int .i64 t376))) := ⟨by repeat (first | (with_reducible first | exact HB.out | apply below_alloc | apply pw_below_drewN | apply below_drew1 | refine below_set ?_ GE377.out) | exact HB.out)⟩
    (try clear HO362)
    (try clear HO365)
    (try clear BK377)
    (try clear HB)
    generalize (((((((((((((w69.setCell ⟨gb377, 0, none⟩ (.slice Ao70 t360.length co70)).setCell ⟨gb377, 1, none⟩ (.slice Ao72 t363.length co72)).setCell ⟨gb377, 2, none⟩ (.int .i64 t366)).setCell ⟨gb377, 3, none⟩ (.int .i64 t367)).setCell ⟨gb377, 4, none⟩ (.int .i64 t368)).setCell ⟨gb377, 5, none⟩ (.int .i64 t369)).setCell ⟨gb377, 6, none⟩ (.int .i64 t370)).setCell ⟨gb377, 7, none⟩ (.int .i64 t371)).setCell ⟨gb377, 8, none⟩ (.int .i64 t372)).setCell ⟨gb377, 9, none⟩ (.int .i64 t373)).setCell ⟨gb377, 10, none⟩ (.int .i64 t374)).setCell ⟨gb377, 11, none⟩ (.int .i64 t375)).setCell ⟨gb377, 12, none⟩ (.int .i64 t376)) = w73 at n0_ n1_ n2_ n3_ ⊢
    have HO362 := n0_
    have HO365 := n1_
    have BK377 := n2_
    have HB := n3_
    clear n0_ n1_ n2_ n3_
    have n0_ := Aside0.mk (Kd.R_drew HO362.out)
    have n1_ := Aside0.mk (Kd.R_drew HO365.out)
    have n2_ := Aside0.mk (blk_drew BK377.out)
    have n3_ := Aside0.mk (below_drew1 HB.out)
    clear HO362
    clear HO365
    clear BK377
    clear HB
    have HO362 := n0_
    have HO365 := n1_
    have BK377 := n2_
    have HB := n3_
    clear n0_ n1_ n2_ n3_
    refine start_ (n := 14) (S := fun w' => w'.cell? ⟨gb377, 0, none⟩ = some (.slice Ao70 t360.length co70) ∧ w'.cell? ⟨gb377, 1, none⟩ = some (.slice Ao72 t363.length co72) ∧ w'.cell? ⟨gb377, 2, none⟩ = some (.int .i64 t366) ∧ w'.cell? ⟨gb377, 3, none⟩ = some (.int .i64 t367) ∧ w'.cell? ⟨gb377, 4, none⟩ = some (.int .i64 t368) ∧ w'.cell? ⟨gb377, 5, none⟩ = some (.int .i64 t369) ∧ w'.cell? ⟨gb377, 6, none⟩ = some (.int .i64 t370) ∧ w'.cell? ⟨gb377, 7, none⟩ = some (.int .i64 t371) ∧ w'.cell? ⟨gb377, 8, none⟩ = some (.int .i64 t372) ∧ w'.cell? ⟨gb377, 9, none⟩ = some (.int .i64 t373) ∧ w'.cell? ⟨gb377, 10, none⟩ = some (.int .i64 t374) ∧ w'.cell? ⟨gb377, 11, none⟩ = some (.int .i64 t375) ∧ w'.cell? ⟨gb377, 12, none⟩ = some (.int .i64 t376)) (ds := []) #[false, false, false, false, false, false, false, false, false, false, false, false, false, false] (by kernel_rfl) rfl rfl ⟨(blk_cell BK377.out 0).trans rfl, (blk_cell BK377.out 1).trans rfl, (blk_cell BK377.out 2).trans rfl, (blk_cell BK377.out 3).trans rfl, (blk_cell BK377.out 4).trans rfl, (blk_cell BK377.out 5).trans rfl, (blk_cell BK377.out 6).trans rfl, (blk_cell BK377.out 7).trans rfl, (blk_cell BK377.out 8).trans rfl, (blk_cell BK377.out 9).trans rfl, (blk_cell BK377.out 10).trans rfl, (blk_cell BK377.out 11).trans rfl, (blk_cell BK377.out 12).trans rfl⟩ (fun hHeld => ?_); refine with_tabW drumlinelaw6_HopsSteps.tab4 drumlinelaw6_HopsSteps.bits4 (fun HT_ HW_ => ?_)
    generalize w73.drew = w74 at HO362 HO365 BK377 HB hHeld ⊢
    refine pure_ (i := 0) (N := some 18) (v := ?_) (a' := ?_) #[true, false, false, false, false, false, false, false, false, false, false, false, false, false] rfl rfl (any_of HT_.out (by kernel_rfl)) (fun _ _ _ h => h) (Or.inl ⟨by rfl, ?_⟩) ?_ ?_
    rotate_left
    ·intro w'
     go_simp
     with_reducible rfl
    rotate_left
    ·simp only [Act.put, sAa, sBb, sCc, i64_w, i32_w]
     rfl
    refine pure_ (i := 1) (N := some 19) (v := ?_) (a' := ?_) #[true, true, false, false, false, false, false, false, false, false, false, false, false, false] rfl rfl (any_of HT_.out (by kernel_rfl)) (fun _ _ _ h => h) (Or.inl ⟨by rfl, ?_⟩) ?_ ?_
    rotate_left
    ·intro w'
     go_simp
     with_reducible rfl
    rotate_left
    ·simp only [Act.put, sAa, sBb, sCc, i64_w, i32_w]
     rfl
    refine pure_ (i := 2) (N := some 20) (v := ?_) (a' := ?_) #[true, true, true, false, false, false, false, false, false, false, false, false, false, false] rfl rfl (any_of HT_.out (by kernel_rfl)) (fun _ _ _ h => h) (Or.inl ⟨by rfl, ?_⟩) ?_ ?_
    rotate_left
    ·intro w'
     go_simp
     with_reducible rfl
    rotate_left
    ·simp only [Act.put, sAa, sBb, sCc, i64_w, i32_w]
     rfl
    refine pure_ (i := 6) (N := some 24) (v := ?_) (a' := ?_) #[true, true, true, false, false, false, true, false, false, false, false, false, false, false] rfl rfl (any_of HT_.out (by kernel_rfl)) (fun _ _ _ h => h) (Or.inl ⟨by rfl, ?_⟩) ?_ ?_
    rotate_left
    ·intro w'
     go_simp
     with_reducible rfl
    rotate_left
    ·simp only [Act.put, sAa, sBb, sCc, i64_w, i32_w]
     rfl
    refine pure_ (i := 7) (N := some 25) (v := ?_) (a' := ?_) #[true, true, true, false, false, false, true, true, false, false, false, false, false, false] rfl rfl (any_of HT_.out (by kernel_rfl)) (fun _ _ _ h => h) (Or.inl ⟨by rfl, ?_⟩) ?_ ?_
    rotate_left
    ·intro w'
     go_simp
     with_reducible rfl
    rotate_left
    ·simp only [Act.put, sAa, sBb, sCc, i64_w, i32_w]
     rfl
    refine pure_ (i := 8) (N := some 26) (v := ?_) (a' := ?_) #[true, true, true, false, false, false, true, true, true, false, false, false, false, false] rfl rfl (any_of HT_.out (by kernel_rfl)) (fun _ _ _ h => h) (Or.inl ⟨by rfl, ?_⟩) ?_ ?_
    rotate_left
    ·intro w'
     go_simp
     with_reducible rfl
    rotate_left
    ·simp only [Act.put, sAa, sBb, sCc, i64_w, i32_w]
     rfl
    refine take_ (i := 3) (N := some 21) (v := ?_) (a' := ?_) #[true, true, true, true, false, false, true, true, true, false, false, false, false, false] rfl rfl (take_ofW HT_.out HW_.out (by kernel_rfl)) (fun _ _ _ h => h) (Or.inl ⟨by rfl, ?_⟩) hHeld ?_ ?_
    rotate_left
    ·rintro w' ⟨s0, s1, s2, s3, s4, s5, s6, s7, s8, s9, s10, s11, s12⟩
     go_simp
     with_reducible rfl
    rotate_left
    ·simp only [Act.put, sAa, sBb, sCc, i64_w, i32_w]
     rfl
    refine pure_ (i := 4) (N := some 22) (v := ?_) (a' := ?_) #[true, true, true, true, true, false, true, true, true, false, false, false, false, false] rfl rfl (any_of HT_.out (by kernel_rfl)) (fun _ _ _ h => h) (Or.inl ⟨by rfl, ?_⟩) ?_ ?_
    rotate_left
    ·intro w'
     go_simp
     with_reducible rfl
    rotate_left
    ·simp only [Act.put, sAa, sBb, sCc, i64_w, i32_w]
     rfl
    refine pure_ (i := 5) (N := some 23) (v := ?_) (a' := ?_) #[true, true, true, true, true, true, true, true, true, false, false, false, false, false] rfl rfl (any_of HT_.out (by kernel_rfl)) (fun _ _ _ h => h) (Or.inl ⟨by rfl, ?_⟩) ?_ ?_
    rotate_left
    ·intro w'
     go_simp
     with_reducible rfl
    rotate_left
    ·simp only [Act.put, sAa, sBb, sCc, i64_w, i32_w]
     rfl
    refine pure_ (i := 12) (N := some 8) (v := ?_) (a' := ?_) #[true, true, true, true, true, true, true, true, true, false, false, false, true, false] rfl rfl (any_of HT_.out (by kernel_rfl)) (fun _ _ _ h => h) (Or.inl ⟨by rfl, ?_⟩) ?_ ?_
    rotate_left
    ·intro w'
     go_simp
     with_reducible rfl
    rotate_left
    ·simp only [Act.put, sAa, sBb, sCc, i64_w, i32_w]
     rfl
    refine take_ (i := 9) (N := some 27) (v := ?_) (a' := ?_) #[true, true, true, true, true, true, true, true, true, true, false, false, true, false] rfl rfl (take_ofW HT_.out HW_.out (by kernel_rfl)) (fun _ _ _ h => h) (Or.inl ⟨by rfl, ?_⟩) hHeld ?_ ?_
    rotate_left
    ·rintro w' ⟨s0, s1, s2, s3, s4, s5, s6, s7, s8, s9, s10, s11, s12⟩
     go_simp
     with_reducible rfl
    rotate_left
    ·simp only [Act.put, sAa, sBb, sCc, i64_w, i32_w]
     rfl
    refine pure_ (i := 10) (N := some 28) (v := ?_) (a' := ?_) #[true, true, true, true, true, true, true, true, true, true, true, false, true, false] rfl rfl (any_of HT_.out (by kernel_rfl)) (fun _ _ _ h => h) (Or.inl ⟨by rfl, ?_⟩) ?_ ?_
    rotate_left
    ·intro w'
     go_simp
     with_reducible rfl
    rotate_left
    ·simp only [Act.put, sAa, sBb, sCc, i64_w, i32_w]
     rfl
    refine pure_ (i := 11) (N := some 29) (v := ?_) (a' := ?_) #[true, true, true, true, true, true, true, true, true, true, true, true, true, false] rfl rfl (any_of HT_.out (by kernel_rfl)) (fun _ _ _ h => h) (Or.inl ⟨by rfl, ?_⟩) ?_ ?_
    rotate_left
    ·intro w'
     go_simp
     with_reducible rfl
    rotate_left
    ·simp only [Act.put, sAa, sBb, sCc, i64_w, i32_w]
     rfl
    refine pure_ (i := 13) (N := some 9) (v := ?_) (a' := ?_) #[true, true, true, true, true, true, true, true, true, true, true, true, true, true] rfl rfl (any_of HT_.out (by kernel_rfl)) (fun _ _ _ h => h) (Or.inl ⟨by rfl, ?_⟩) ?_ ?_
    rotate_left
    ·intro w'
     go_simp
     with_reducible rfl
    rotate_left
    ·simp only [Act.put, sAa, sBb, sCc, i64_w, i32_w]
     rfl
    refine done_ (done_of HT_.out (by kernel_rfl)) ?_
    obtain ⟨hcz75_0, hcz75_1, hcz75_2, hcz75_3, hcz75_4, hcz75_5, hcz75_6, hcz75_7, hcz75_8, hcz75_9, hcz75_10, hcz75_11, hcz75_12⟩ := cellsK13 BK377.out
    obtain ⟨hfz75_0, hfz75_1, hfz75_2, hfz75_3, hfz75_4, hfz75_5, hfz75_6, hfz75_7, hfz75_8, hfz75_9, hfz75_10, hfz75_11, hfz75_12⟩ := frozK13 BK377.out
    try go_wp2_with (first | ((with_reducible refine gate_callee (f := 16) rfl ?_); refine goesL_ (some 33) rfl rfl Tryd.func16 (by kernel_rfl) rfl #[.agg #[.slice Ao70 t360.length co70, .slice Ao72 t363.length co72, .int .i64 t366, .int .i64 t367, .int .i64 t368, .int .i64 t369, .int .i64 t370, .int .i64 t371, .int .i64 t372, .int .i64 t373, .int .i64 t374, .int .i64 t375, .int .i64 t376], .int .i64 (Int.tmod (wrap64 (a1)) (t360.length : Int)), .int .i64 (Int.tmod (wrap64 (a2)) (t360.length : Int))] rfl (by (try simp only [List.map_toArray, List.map_cons, List.map_nil]); first | done | rfl | (simp only [List.length_drop, List.length_take]; rfl)) ?_; (with_reducible refine (hops_Way.calls k _ _ t360 _ _ t363 t366 t367 t368 t369 t370 t371 t372 t373 t374 t375 t376 (Int.tmod (wrap64 (a1)) (t360.length : Int)) (Int.tmod (wrap64 (a2)) (t360.length : Int)) t378 _ ?side1 ?side2 ?side3 ?side4 A8.out).mono ?_); (case side1 => repeat (first | exact (Kd.R_reads' HO362.out).2.2 | (with_reducible refine Kd.C_alloc ?_ _) | (with_reducible refine Kd.C_drewN ?_ _) | (with_reducible refine Kd.C_drew ?_))); (case side2 => exact (Kd.R_reads' HO362.out).2.1); (case side3 => repeat (first | exact (Kd.R_reads' HO365.out).2.2 | (with_reducible refine Kd.C_alloc ?_ _) | (with_reducible refine Kd.C_drewN ?_ _) | (with_reducible refine Kd.C_drew ?_))); (case side4 => exact (Kd.R_reads' HO365.out).2.1); rintro e w76 ⟨v379, rfl, ho0, hb⟩; refine ⟨_, rfl, ?_⟩; have n0_ := Aside0.mk (Kd.R_below (by (with_reducible repeat (first | apply Kd.R_alloc | apply Kd.R_drewN | apply Kd.R_drew)); exact HO362.out) hb); have n1_ := Aside0.mk (Kd.R_below (by (with_reducible repeat (first | apply Kd.R_alloc | apply Kd.R_drewN | apply Kd.R_drew)); exact HO365.out) hb); have n2_ := Aside0.mk (Kd.R_lower ho0 (below_size (by repeat (first | (with_reducible first | exact HB.out | apply below_alloc | apply pw_below_drewN | apply below_drew1 | refine below_set ?_ GE377.out) | exact HB.out)))); have n3_ := Aside0.mk (blk_below (g := gb377) (o := .cells #[.slice Ao70 t360.length co70, .slice Ao72 t363.length co72, .int .i64 t366, .int .i64 t367, .int .i64 t368, .int .i64 t369, .int .i64 t370, .int .i64 t371, .int .i64 t372, .int .i64 t373, .int .i64 t374, .int .i64 t375, .int .i64 t376] 25 (0, 0)) (by (with_reducible repeat (first | refine blk_drewN ?_ _ | refine blk_drew ?_ | refine blk_alloc ?_ _)); exact BK377.out) hb); have n4_ := Aside0.mk (below_step (by repeat (first | (with_reducible first | exact HB.out | apply below_alloc | apply pw_below_drewN | apply below_drew1 | refine below_set ?_ GE377.out) | exact HB.out)) hb); clear HO362; clear HO365; clear BK377; clear HB; have HO362 := n0_; have HO365 := n1_; have HO380 := n2_; have BK377 := n3_; have HB := n4_; clear n0_ n1_ n2_ n3_ n4_; (try clear hb); (try clear hb2); (try clear hk); (try clear hi); (try clear ho0); obtain ⟨Ao77, co77, eo77⟩ := Kd.R_slice HO380.out; subst eo77; obtain ⟨hcz78_0, hcz78_1, hcz78_2, hcz78_3, hcz78_4, hcz78_5, hcz78_6, hcz78_7, hcz78_8, hcz78_9, hcz78_10, hcz78_11, hcz78_12⟩ := cellsK13 BK377.out; obtain ⟨hfz78_0, hfz78_1, hfz78_2, hfz78_3, hfz78_4, hfz78_5, hfz78_6, hfz78_7, hfz78_8, hfz78_9, hfz78_10, hfz78_11, hfz78_12⟩ := frozK13 BK377.out) | ((with_reducible refine gate_callee (f := 11) rfl ?_); refine goesL_ (some 39) rfl rfl Tryd.func11 (by kernel_rfl) rfl #[.agg #[.slice Ao70 t360.length co70, .slice Ao72 t363.length co72, .int .i64 t366, .int .i64 t367, .int .i64 t368, .int .i64 t369, .int .i64 t370, .int .i64 t371, .int .i64 t372, .int .i64 t373, .int .i64 t374, .int .i64 t375, .int .i64 t376], .int .i64 (Int.tmod (wrap64 (a1)) (t360.length : Int)), .int .i64 (Int.tmod (wrap64 (a2)) (t360.length : Int))] rfl (by (try simp only [List.map_toArray, List.map_cons, List.map_nil]); first | done | rfl | (simp only [List.length_drop, List.length_take]; rfl)) ?_; (with_reducible refine (hops_Dist.calls k _ _ t360 _ _ t363 t366 t367 t368 t369 t370 t371 t372 t373 t374 t375 t376 (Int.tmod (wrap64 (a1)) (t360.length : Int)) (Int.tmod (wrap64 (a2)) (t360.length : Int)) t381 _ ?side1 ?side2 ?side3 ?side4 A9.out).mono ?_); (case side1 => repeat (first | exact (Kd.R_reads' HO362.out).2.2 | (with_reducible refine Kd.C_alloc ?_ _) | (with_reducible refine Kd.C_drewN ?_ _) | (with_reducible refine Kd.C_drew ?_))); (case side2 => exact (Kd.R_reads' HO362.out).2.1); (case side3 => repeat (first | exact (Kd.R_reads' HO365.out).2.2 | (with_reducible refine Kd.C_alloc ?_ _) | (with_reducible refine Kd.C_drewN ?_ _) | (with_reducible refine Kd.C_drew ?_))); (case side4 => exact (Kd.R_reads' HO365.out).2.1); rintro e w79 ⟨rfl, hb⟩; refine ⟨_, rfl, ?_⟩; have n0_ := Aside0.mk (Kd.R_below (by (with_reducible repeat (first | apply Kd.R_alloc | apply Kd.R_drewN | apply Kd.R_drew)); exact HO362.out) hb); have n1_ := Aside0.mk (Kd.R_below (by (with_reducible repeat (first | apply Kd.R_alloc | apply Kd.R_drewN | apply Kd.R_drew)); exact HO365.out) hb); have n2_ := Aside0.mk (Kd.R_below (by (with_reducible repeat (first | apply Kd.R_alloc | apply Kd.R_drewN | apply Kd.R_drew)); exact HO380.out) hb); have n3_ := Aside0.mk (blk_below (g := gb377) (o := .cells #[.slice Ao70 t360.length co70, .slice Ao72 t363.length co72, .int .i64 t366, .int .i64 t367, .int .i64 t368, .int .i64 t369, .int .i64 t370, .int .i64 t371, .int .i64 t372, .int .i64 t373, .int .i64 t374, .int .i64 t375, .int .i64 t376] 25 (0, 0)) (by (with_reducible repeat (first | refine blk_drewN ?_ _ | refine blk_drew ?_ | refine blk_alloc ?_ _)); exact BK377.out) hb); have n4_ := Aside0.mk (below_step (by repeat (first | (with_reducible first | exact HB.out | apply below_alloc | apply pw_below_drewN | apply below_drew1 | refine below_set ?_ GE377.out) | exact HB.out)) hb); clear HO362; clear HO365; clear HO380; clear BK377; clear HB; have HO362 := n0_; have HO365 := n1_; have HO380 := n2_; have BK377 := n3_; have HB := n4_; clear n0_ n1_ n2_ n3_ n4_; (try clear hb); (try clear hb2); (try clear hk); (try clear hi)))
    go_ret
    exact ⟨by first | rfl | (simp [errW_none, errW_some] <;> rfl) | (simp [*, errW_none, errW_some] <;> rfl), by repeat (first | (with_reducible first | exact HB.out | apply below_alloc | apply pw_below_drewN | apply below_drew1 | refine below_set ?_ GE377.out) | exact HB.out)⟩
 ·replace c5 := Bool.eq_false_iff.mpr c5
  subst c5
  have H1 : (some false) = some r := by rw [if_neg (show ¬ (false = true) by decide)] at H; exact H
  clear H
  have H := H1
  clear H1
  obtain rfl := Option.some.inj H
  go_enter Tryd.func5, Tryd.ntmps5
  go_wp2_with (first | ((with_reducible refine gate_callee (f := 10) rfl ?_); refine goesL_ (some 14) rfl rfl Tryd.func10 (by kernel_rfl) rfl #[] rfl (by (try simp only [List.map_toArray, List.map_cons, List.map_nil]); first | done | rfl | (simp only [List.length_drop, List.length_take]; rfl)) ?_; (with_reducible refine (drumlinelaw6_alive.calls k  false _ A4.out).mono ?_); rintro e w80 ⟨rfl, hb⟩; refine ⟨_, rfl, ?_⟩; have n0_ := Aside0.mk (below_step (by repeat (first | (with_reducible first | exact HB.out | apply below_alloc | apply pw_below_drewN | apply below_drew1) | exact HB.out)) hb); clear HB; have HB := n0_; clear n0_; (try clear hb); (try clear hb2); (try clear hk); (try clear hi)))
  go_ret
  exact ⟨by first | rfl | (simp [errW_none, errW_some] <;> rfl) | (simp [*, errW_none, errW_some] <;> rfl), by repeat (first | (with_reducible first | exact HB.out | apply below_alloc | apply pw_below_drewN | apply below_drew1) | exact HB.out)⟩
def drumlinelaw6_HopsSteps.Pure : Prop := ∀ (a0 : Int) (a1 : Int) (a2 : Int), (Lit.int .i64 a0).wf = true → (Lit.int .u8 a1).wf = true → (Lit.int .u8 a2).wf = true → ∃ k, drumlinelaw6_HopsSteps.f k a0 a1 a2 = some true
theorem drumlinelaw6_HopsSteps.walk (P : drumlinelaw6_HopsSteps.Pure) (a0 : Int) (a1 : Int) (a2 : Int) (w : World) (w0 : (Lit.int .i64 a0).wf = true) (w1 : (Lit.int .u8 a1).wf = true) (w2 : (Lit.int .u8 a2).wf = true) :
  Calls Tryd.prog 5 #[.int .i64 a0, .int .u8 a1, .int .u8 a2] w fun e w' => e = .returned (.bool true) ∧ Below w.heap.size w w' := by
 obtain ⟨k, h⟩ := P a0 a1 a2 w0 w1 w2
 refine (drumlinelaw6_HopsSteps.calls k a0 a1 a2 true w h).mono ?_
 rintro e w' ⟨rfl, hd⟩
 exact ⟨rfl, hd⟩
end Go.Proofs.YtkhlndhleiaokaaDoor.MHo
