/- Texts of this claim, laid together by a program (wip/e/merge2.py): MFrx75. -/
import Derived.Test.YtaaifdclojkdmaaDoorZFr9
import Derived.Test.YtaaifdclojkdmaaDoorZFr2
import Derived.Test.YtaaifdclojkdmaaDoorZFr16
import Derived.Test.YtaaifdclojkdmaaDoorZFr31
import Derived.Test.YtaaifdclojkdmaaDoorZFr11
namespace Go.Proofs.YtaaifdclojkdmaaDoor.MFr
open Go.RowKit Go.Proofs.YtaaifdclojkdmaaDoorW.PrintWords Go.Proofs.YtaaifdclojkdmaaDoorW.PrintLast Go.Proofs.YtaaifdclojkdmaaDoorW.PrintMore
attribute [local go_sem] mp_u32s mp_u32m mp_u8s mp_u8m max2_int min2_int max_two min_two max_three min_three max_four min_four
set_option linter.unusedVariables false
set_option linter.unusedSimpArgs false
def drumlineref1_Encode.f (k : Nat) (a0_0 : Int) (a0_1 : Int) (a0_2 : Int) (a0_3 : Int) (a0_4 : Int) (a0_5 : Int) (a0_6 : Bool) (a0_7 : Int) (a0_8 : Int) (l0_9 : List Int) (a0_10 : Int) (a0_11 : Int) (a0_12 : Int) (l0_13 : List Int) : Option (List Int × Int) := (drumlineref1_May.f k a0_0 a0_1 a0_2 a0_3 a0_4 a0_5 a0_6 a0_7 a0_8 l0_9 a0_10 a0_11 a0_12 l0_13).bind fun t256 => (if t256 = true then ((drumlineref1_put.f k ([] : List Int) a0_0 1).bind fun t257 => ((drumlineref1_put.f k t257 a0_1 1).bind fun t260 => ((drumlineref1_put.f k t260 a0_2 1).bind fun t263 => (if a0_0 = 1 then ((drumlineref1_put.f k t263 a0_3 2).bind fun t266 => ((drumlineref1_Seal.f k t266).bind fun t269 => (some (t269, 0)))) else (if a0_0 = 2 then ((drumlineref1_put.f k t263 a0_7 6).bind fun t272 => ((drumlineref1_put.f k t272 a0_4 2).bind fun t275 => ((drumlineref1_putAges.f k t275 l0_9).bind fun t278 => ((drumlineref1_Seal.f k t278).bind fun t281 => (some (t281, 0)))))) else (if a0_0 = 3 then ((drumlineref1_put.f k t263 a0_5 1).bind fun t284 => ((drumlineref1_flag.f a0_6).bind fun t287 => ((drumlineref1_put.f k t284 t287 1).bind fun t288 => ((drumlineref1_put.f k t288 a0_7 6).bind fun t291 => ((drumlineref1_Signed.f k a0_8 6).bind fun bt294 => (if t291.length + bt294.1.length < 140737488355328 then ((drumlineref1_Seal.f k (t291 ++ bt294.1)).bind fun t301 => (some (t301, 0))) else (none))))))) else (if a0_0 = 4 then ((drumlineref1_put.f k t263 a0_5 1).bind fun t304 => ((drumlineref1_putAges.f k t304 l0_9).bind fun t307 => ((drumlineref1_Seal.f k t307).bind fun t310 => (some (t310, 0))))) else (if a0_0 = 5 then ((drumlineref1_put.f k t263 a0_5 1).bind fun t313 => ((drumlineref1_put.f k t313 a0_10 1).bind fun t316 => ((drumlineref1_put.f k t316 a0_11 1).bind fun t319 => ((drumlineref1_put.f k t319 a0_12 4).bind fun t322 => ((drumlineref1_put.f k t322 (l0_13.length : Int) 1).bind fun t325 => (if t325.length + l0_13.length < 140737488355328 then ((drumlineref1_Seal.f k (t325 ++ l0_13)).bind fun t331 => (some (t331, 0))) else (none))))))) else ((drumlineref1_Seal.f k t263).bind fun t334 => (some (t334, 0))))))))))) else (some (([] : List Int), 1)))
theorem drumlineref1_Encode.mono : ∀ a0 a1 a2 a3 a4 a5 a6 a7 a8 a9 a10 a11 a12 a13 k, LeO (drumlineref1_Encode.f k a0 a1 a2 a3 a4 a5 a6 a7 a8 a9 a10 a11 a12 a13) (drumlineref1_Encode.f (k + 1) a0 a1 a2 a3 a4 a5 a6 a7 a8 a9 a10 a11 a12 a13) := by
 intro a0 a1 a2 a3 a4 a5 a6 a7 a8 a9 a10 a11 a12 a13 k
 unfold drumlineref1_Encode.f
 repeat' first
   | (with_reducible exact drumlineref1_May.mono _ _ _ _ _ _ _ _ _ _ _ _ _ _ _)
   | (with_reducible exact drumlineref1_Seal.mono _ _)
   | (with_reducible exact drumlineref1_Signed.mono _ _ _)
   | (with_reducible exact drumlineref1_put.mono _ _ _ _)
   | (with_reducible exact drumlineref1_putAges.mono _ _ _)
   | (with_reducible exact LeO.refl _)
   | (with_reducible exact LeO.none _)
   | (with_reducible refine LeO.ite ?_ ?_)
   | (with_reducible refine LeO.bind ?_ (fun _ => ?_))
   | exact drumlineref1_May.mono _ _ _ _ _ _ _ _ _ _ _ _ _ _ _
   | exact drumlineref1_Seal.mono _ _
   | exact drumlineref1_Signed.mono _ _ _
   | exact drumlineref1_put.mono _ _ _ _
   | exact drumlineref1_putAges.mono _ _ _
   | exact LeO.none _
   | refine LeO.ite ?_ ?_
   | refine LeO.bind ?_ (fun _ => ?_)
def drumlineref1_Encode.T3 : Bool × List (List Nat × List Nat) := (true, [([], []), ([0], [0]), ([1], [1]), ([], []), ([3], [3]), ([2, 4, 2], [2, 4]), ([], []), ([6], [6]), ([5, 7, 5], [5, 7]), ([8, 8, 0, 1, 2, 3, 4, 5, 6, 7, 8], [8])])
def drumlineref1_Encode.B3 : List Nat := [0, 1, 3, 0, 8, 31, 0, 64, 255, 511]
theorem drumlineref1_Encode.tab3 : rtab .any (opsOf Tryd.f11 3) = drumlineref1_Encode.T3 := by kernel_rfl
theorem drumlineref1_Encode.bits3 : waitsOk drumlineref1_Encode.T3.2 drumlineref1_Encode.B3 = true := by kernel_rfl
def drumlineref1_Encode.T8 : Bool × List (List Nat × List Nat) := (true, [([], []), ([], []), ([1], [1]), ([0, 2], [0, 2]), ([], []), ([4], [4]), ([3, 5, 3], [3, 5]), ([], []), ([7], [7]), ([6, 8, 6], [6, 8]), ([9, 9, 0, 1, 2, 3, 4, 5, 6, 7, 8, 9], [0, 9])])
def drumlineref1_Encode.B8 : List Nat := [0, 0, 2, 7, 0, 16, 63, 0, 128, 511, 1023]
theorem drumlineref1_Encode.tab8 : rtab .any (opsOf Tryd.f11 8) = drumlineref1_Encode.T8 := by kernel_rfl
theorem drumlineref1_Encode.bits8 : waitsOk drumlineref1_Encode.T8.2 drumlineref1_Encode.B8 = true := by kernel_rfl
def drumlineref1_Encode.T10 : Bool × List (List Nat × List Nat) := (true, [([], []), ([], []), ([1], [1]), ([0, 2], [0, 2]), ([], []), ([4], [4]), ([5, 3], [5]), ([3, 6, 6], [3, 6]), ([], []), ([8], [8]), ([7, 9, 7], [7, 9]), ([10, 10, 0, 1, 2, 3, 4, 5, 6, 7, 8, 9, 10], [0, 10])])
def drumlineref1_Encode.B10 : List Nat := [0, 0, 2, 7, 0, 16, 63, 127, 0, 256, 1023, 2047]
theorem drumlineref1_Encode.tab10 : rtab .any (opsOf Tryd.f11 10) = drumlineref1_Encode.T10 := by kernel_rfl
theorem drumlineref1_Encode.bits10 : waitsOk drumlineref1_Encode.T10.2 drumlineref1_Encode.B10 = true := by kernel_rfl
def drumlineref1_Encode.T14 : Bool × List (List Nat × List Nat) := (true, [([], []), ([], []), ([1], [1]), ([0, 2], [0, 2]), ([], []), ([4], [4]), ([3, 5, 3], [3, 5]), ([6, 6, 0, 1, 2, 3, 4, 5, 6], [0, 6])])
def drumlineref1_Encode.B14 : List Nat := [0, 0, 2, 7, 0, 16, 63, 127]
theorem drumlineref1_Encode.tab14 : rtab .any (opsOf Tryd.f11 14) = drumlineref1_Encode.T14 := by kernel_rfl
theorem drumlineref1_Encode.bits14 : waitsOk drumlineref1_Encode.T14.2 drumlineref1_Encode.B14 = true := by kernel_rfl
def drumlineref1_Encode.T16 : Bool × List (List Nat × List Nat) := (true, [([], []), ([], []), ([1], [1]), ([0, 2], [0, 2]), ([], []), ([4], [4]), ([3, 5, 3], [3, 5]), ([], []), ([7], [7]), ([6, 8, 6], [6, 8]), ([], []), ([10], [10]), ([9, 11, 9], [9, 11]), ([12, 12, 0, 1, 2, 3, 4, 5, 6, 7, 8, 9, 10, 11, 12], [0, 12])])
def drumlineref1_Encode.B16 : List Nat := [0, 0, 2, 7, 0, 16, 63, 0, 128, 511, 0, 1024, 4095, 8191]
theorem drumlineref1_Encode.tab16 : rtab .any (opsOf Tryd.f11 16) = drumlineref1_Encode.T16 := by kernel_rfl
theorem drumlineref1_Encode.bits16 : waitsOk drumlineref1_Encode.T16.2 drumlineref1_Encode.B16 = true := by kernel_rfl
def drumlineref1_Encode.T17 : Bool × List (List Nat × List Nat) := (true, [([], []), ([], []), ([1], [1]), ([2], [2]), ([0, 3], [0, 3]), ([], []), ([5], [5]), ([4, 6, 4], [4, 6]), ([7, 7, 0, 1, 2, 3, 4, 5, 6, 7], [0, 7])])
def drumlineref1_Encode.B17 : List Nat := [0, 0, 2, 6, 15, 0, 32, 127, 255]
theorem drumlineref1_Encode.tab17 : rtab .any (opsOf Tryd.f11 17) = drumlineref1_Encode.T17 := by kernel_rfl
theorem drumlineref1_Encode.bits17 : waitsOk drumlineref1_Encode.T17.2 drumlineref1_Encode.B17 = true := by kernel_rfl
set_option maxHeartbeats 8000000 in
set_option maxRecDepth 100000 in
theorem drumlineref1_Encode.calls (k : Nat) (a0_0 : Int) (a0_1 : Int) (a0_2 : Int) (a0_3 : Int) (a0_4 : Int) (a0_5 : Int) (a0_6 : Bool) (a0_7 : Int) (a0_8 : Int) (A0_9 : Option Addr) (c0_9 : Nat) (l0_9 : List Int) (a0_10 : Int) (a0_11 : Int) (a0_12 : Int) (A0_13 : Option Addr) (c0_13 : Nat) (l0_13 : List Int) (r1 : List Int) (r2 : Int) (w : World) (hr0_9 : Kd.C (Kd.int .i64) w A0_9 l0_9.length l0_9) (hc0_9 : l0_9.length ≤ c0_9) (hr0_13 : Kd.C (Kd.int .u8) w A0_13 l0_13.length l0_13) (hc0_13 : l0_13.length ≤ c0_13) (h : drumlineref1_Encode.f k a0_0 a0_1 a0_2 a0_3 a0_4 a0_5 a0_6 a0_7 a0_8 l0_9 a0_10 a0_11 a0_12 l0_13 = some (r1, r2)) :
  Calls Tryd.prog 11 #[.agg #[.int .i64 a0_0, .int .i64 a0_1, .int .i64 a0_2, .int .i64 a0_3, .int .i64 a0_4, .int .i64 a0_5, .bool a0_6, .int .i64 a0_7, .int .i64 a0_8, .slice A0_9 l0_9.length c0_9, .int .i64 a0_10, .int .i64 a0_11, .int .i64 a0_12, .slice A0_13 l0_13.length c0_13]] w fun e w' => ∃ v0_ : Value, e = .returned (.tuple #[v0_, .int .i64 r2]) ∧ Kd.R (Kd.int .u8) 5 w' w.heap.size (fun _ => True) v0_ r1 ∧ Below w.heap.size w w' := by
 have hu25 := Tryd.underlying25
 have HR0_9 := Aside0.mk hr0_9
 have HC0_9 := Aside0.mk hc0_9
 clear hr0_9 hc0_9
 have HR0_13 := Aside0.mk hr0_13
 have HC0_13 := Aside0.mk hc0_13
 clear hr0_13 hc0_13
 have HB := Aside0.mk (Below.refl w.heap.size w)
 have H : ((drumlineref1_May.f k a0_0 a0_1 a0_2 a0_3 a0_4 a0_5 a0_6 a0_7 a0_8 l0_9 a0_10 a0_11 a0_12 l0_13).bind fun t256 => (if t256 = true then ((drumlineref1_put.f k ([] : List Int) a0_0 1).bind fun t257 => ((drumlineref1_put.f k t257 a0_1 1).bind fun t260 => ((drumlineref1_put.f k t260 a0_2 1).bind fun t263 => (if a0_0 = 1 then ((drumlineref1_put.f k t263 a0_3 2).bind fun t266 => ((drumlineref1_Seal.f k t266).bind fun t269 => (some (t269, 0)))) else (if a0_0 = 2 then ((drumlineref1_put.f k t263 a0_7 6).bind fun t272 => ((drumlineref1_put.f k t272 a0_4 2).bind fun t275 => ((drumlineref1_putAges.f k t275 l0_9).bind fun t278 => ((drumlineref1_Seal.f k t278).bind fun t281 => (some (t281, 0)))))) else (if a0_0 = 3 then ((drumlineref1_put.f k t263 a0_5 1).bind fun t284 => ((drumlineref1_flag.f a0_6).bind fun t287 => ((drumlineref1_put.f k t284 t287 1).bind fun t288 => ((drumlineref1_put.f k t288 a0_7 6).bind fun t291 => ((drumlineref1_Signed.f k a0_8 6).bind fun bt294 => (if t291.length + bt294.1.length < 140737488355328 then ((drumlineref1_Seal.f k (t291 ++ bt294.1)).bind fun t301 => (some (t301, 0))) else (none))))))) else (if a0_0 = 4 then ((drumlineref1_put.f k t263 a0_5 1).bind fun t304 => ((drumlineref1_putAges.f k t304 l0_9).bind fun t307 => ((drumlineref1_Seal.f k t307).bind fun t310 => (some (t310, 0))))) else (if a0_0 = 5 then ((drumlineref1_put.f k t263 a0_5 1).bind fun t313 => ((drumlineref1_put.f k t313 a0_10 1).bind fun t316 => ((drumlineref1_put.f k t316 a0_11 1).bind fun t319 => ((drumlineref1_put.f k t319 a0_12 4).bind fun t322 => ((drumlineref1_put.f k t322 (l0_13.length : Int) 1).bind fun t325 => (if t325.length + l0_13.length < 140737488355328 then ((drumlineref1_Seal.f k (t325 ++ l0_13)).bind fun t331 => (some (t331, 0))) else (none))))))) else ((drumlineref1_Seal.f k t263).bind fun t334 => (some (t334, 0))))))))))) else (some (([] : List Int), 1)))) = some (r1, r2) := h
 clear h
 replace H := Option.bind_eq_some_iff.mp H
 obtain ⟨t256, A20, H⟩ := H
 replace H : (if t256 = true then ((drumlineref1_put.f k ([] : List Int) a0_0 1).bind fun t257 => ((drumlineref1_put.f k t257 a0_1 1).bind fun t260 => ((drumlineref1_put.f k t260 a0_2 1).bind fun t263 => (if a0_0 = 1 then ((drumlineref1_put.f k t263 a0_3 2).bind fun t266 => ((drumlineref1_Seal.f k t266).bind fun t269 => (some (t269, 0)))) else (if a0_0 = 2 then ((drumlineref1_put.f k t263 a0_7 6).bind fun t272 => ((drumlineref1_put.f k t272 a0_4 2).bind fun t275 => ((drumlineref1_putAges.f k t275 l0_9).bind fun t278 => ((drumlineref1_Seal.f k t278).bind fun t281 => (some (t281, 0)))))) else (if a0_0 = 3 then ((drumlineref1_put.f k t263 a0_5 1).bind fun t284 => ((drumlineref1_flag.f a0_6).bind fun t287 => ((drumlineref1_put.f k t284 t287 1).bind fun t288 => ((drumlineref1_put.f k t288 a0_7 6).bind fun t291 => ((drumlineref1_Signed.f k a0_8 6).bind fun bt294 => (if t291.length + bt294.1.length < 140737488355328 then ((drumlineref1_Seal.f k (t291 ++ bt294.1)).bind fun t301 => (some (t301, 0))) else (none))))))) else (if a0_0 = 4 then ((drumlineref1_put.f k t263 a0_5 1).bind fun t304 => ((drumlineref1_putAges.f k t304 l0_9).bind fun t307 => ((drumlineref1_Seal.f k t307).bind fun t310 => (some (t310, 0))))) else (if a0_0 = 5 then ((drumlineref1_put.f k t263 a0_5 1).bind fun t313 => ((drumlineref1_put.f k t313 a0_10 1).bind fun t316 => ((drumlineref1_put.f k t316 a0_11 1).bind fun t319 => ((drumlineref1_put.f k t319 a0_12 4).bind fun t322 => ((drumlineref1_put.f k t322 (l0_13.length : Int) 1).bind fun t325 => (if t325.length + l0_13.length < 140737488355328 then ((drumlineref1_Seal.f k (t325 ++ l0_13)).bind fun t331 => (some (t331, 0))) else (none))))))) else ((drumlineref1_Seal.f k t263).bind fun t334 => (some (t334, 0))))))))))) else (some (([] : List Int), 1))) = some (r1, r2) := H
 have A2 := Aside0.mk A20
 clear A20
 by_cases c3 : t256 = true
 ·subst c3
  have H1 : ((drumlineref1_put.f k ([] : List Int) a0_0 1).bind fun t257 => ((drumlineref1_put.f k t257 a0_1 1).bind fun t260 => ((drumlineref1_put.f k t260 a0_2 1).bind fun t263 => (if a0_0 = 1 then ((drumlineref1_put.f k t263 a0_3 2).bind fun t266 => ((drumlineref1_Seal.f k t266).bind fun t269 => (some (t269, 0)))) else (if a0_0 = 2 then ((drumlineref1_put.f k t263 a0_7 6).bind fun t272 => ((drumlineref1_put.f k t272 a0_4 2).bind fun t275 => ((drumlineref1_putAges.f k t275 l0_9).bind fun t278 => ((drumlineref1_Seal.f k t278).bind fun t281 => (some (t281, 0)))))) else (if a0_0 = 3 then ((drumlineref1_put.f k t263 a0_5 1).bind fun t284 => ((drumlineref1_flag.f a0_6).bind fun t287 => ((drumlineref1_put.f k t284 t287 1).bind fun t288 => ((drumlineref1_put.f k t288 a0_7 6).bind fun t291 => ((drumlineref1_Signed.f k a0_8 6).bind fun bt294 => (if t291.length + bt294.1.length < 140737488355328 then ((drumlineref1_Seal.f k (t291 ++ bt294.1)).bind fun t301 => (some (t301, 0))) else (none))))))) else (if a0_0 = 4 then ((drumlineref1_put.f k t263 a0_5 1).bind fun t304 => ((drumlineref1_putAges.f k t304 l0_9).bind fun t307 => ((drumlineref1_Seal.f k t307).bind fun t310 => (some (t310, 0))))) else (if a0_0 = 5 then ((drumlineref1_put.f k t263 a0_5 1).bind fun t313 => ((drumlineref1_put.f k t313 a0_10 1).bind fun t316 => ((drumlineref1_put.f k t316 a0_11 1).bind fun t319 => ((drumlineref1_put.f k t319 a0_12 4).bind fun t322 => ((drumlineref1_put.f k t322 (l0_13.length : Int) 1).bind fun t325 => (if t325.length + l0_13.length < 140737488355328 then ((drumlineref1_Seal.f k (t325 ++ l0_13)).bind fun t331 => (some (t331, 0))) else (none))))))) else ((drumlineref1_Seal.f k t263).bind fun t334 => (some (t334, 0))))))))))) = some (r1, r2) := by rw [if_pos rfl] at H; exact H
  clear H
  have H := H1
  clear H1
  replace H := Option.bind_eq_some_iff.mp H
  obtain ⟨t257, A40, H⟩ := H
  replace H : ((drumlineref1_put.f k t257 a0_1 1).bind fun t260 => ((drumlineref1_put.f k t260 a0_2 1).bind fun t263 => (if a0_0 = 1 then ((drumlineref1_put.f k t263 a0_3 2).bind fun t266 => ((drumlineref1_Seal.f k t266).bind fun t269 => (some (t269, 0)))) else (if a0_0 = 2 then ((drumlineref1_put.f k t263 a0_7 6).bind fun t272 => ((drumlineref1_put.f k t272 a0_4 2).bind fun t275 => ((drumlineref1_putAges.f k t275 l0_9).bind fun t278 => ((drumlineref1_Seal.f k t278).bind fun t281 => (some (t281, 0)))))) else (if a0_0 = 3 then ((drumlineref1_put.f k t263 a0_5 1).bind fun t284 => ((drumlineref1_flag.f a0_6).bind fun t287 => ((drumlineref1_put.f k t284 t287 1).bind fun t288 => ((drumlineref1_put.f k t288 a0_7 6).bind fun t291 => ((drumlineref1_Signed.f k a0_8 6).bind fun bt294 => (if t291.length + bt294.1.length < 140737488355328 then ((drumlineref1_Seal.f k (t291 ++ bt294.1)).bind fun t301 => (some (t301, 0))) else (none))))))) else (if a0_0 = 4 then ((drumlineref1_put.f k t263 a0_5 1).bind fun t304 => ((drumlineref1_putAges.f k t304 l0_9).bind fun t307 => ((drumlineref1_Seal.f k t307).bind fun t310 => (some (t310, 0))))) else (if a0_0 = 5 then ((drumlineref1_put.f k t263 a0_5 1).bind fun t313 => ((drumlineref1_put.f k t313 a0_10 1).bind fun t316 => ((drumlineref1_put.f k t316 a0_11 1).bind fun t319 => ((drumlineref1_put.f k t319 a0_12 4).bind fun t322 => ((drumlineref1_put.f k t322 (l0_13.length : Int) 1).bind fun t325 => (if t325.length + l0_13.length < 140737488355328 then ((drumlineref1_Seal.f k (t325 ++ l0_13)).bind fun t331 => (some (t331, 0))) else (none))))))) else ((drumlineref1_Seal.f k t263).bind fun t334 => (some (t334, 0)))))))))) = some (r1, r2) := H
  have A4 := Aside0.mk A40
  clear A40
  replace H := Option.bind_eq_some_iff.mp H
  obtain ⟨t260, A50, H⟩ := H
  replace H : ((drumlineref1_put.f k t260 a0_2 1).bind fun t263 => (if a0_0 = 1 then ((drumlineref1_put.f k t263 a0_3 2).bind fun t266 => ((drumlineref1_Seal.f k t266).bind fun t269 => (some (t269, 0)))) else (if a0_0 = 2 then ((drumlineref1_put.f k t263 a0_7 6).bind fun t272 => ((drumlineref1_put.f k t272 a0_4 2).bind fun t275 => ((drumlineref1_putAges.f k t275 l0_9).bind fun t278 => ((drumlineref1_Seal.f k t278).bind fun t281 => (some (t281, 0)))))) else (if a0_0 = 3 then ((drumlineref1_put.f k t263 a0_5 1).bind fun t284 => ((drumlineref1_flag.f a0_6).bind fun t287 => ((drumlineref1_put.f k t284 t287 1).bind fun t288 => ((drumlineref1_put.f k t288 a0_7 6).bind fun t291 => ((drumlineref1_Signed.f k a0_8 6).bind fun bt294 => (if t291.length + bt294.1.length < 140737488355328 then ((drumlineref1_Seal.f k (t291 ++ bt294.1)).bind fun t301 => (some (t301, 0))) else (none))))))) else (if a0_0 = 4 then ((drumlineref1_put.f k t263 a0_5 1).bind fun t304 => ((drumlineref1_putAges.f k t304 l0_9).bind fun t307 => ((drumlineref1_Seal.f k t307).bind fun t310 => (some (t310, 0))))) else (if a0_0 = 5 then ((drumlineref1_put.f k t263 a0_5 1).bind fun t313 => ((drumlineref1_put.f k t313 a0_10 1).bind fun t316 => ((drumlineref1_put.f k t316 a0_11 1).bind fun t319 => ((drumlineref1_put.f k t319 a0_12 4).bind fun t322 => ((drumlineref1_put.f k t322 (l0_13.length : Int) 1).bind fun t325 => (if t325.length + l0_13.length < 140737488355328 then ((drumlineref1_Seal.f k (t325 ++ l0_13)).bind fun t331 => (some (t331, 0))) else (none))))))) else ((drumlineref1_Seal.f k t263).bind fun t334 => (some (t334, 0))))))))) = some (r1, r2) := H
  have A5 := Aside0.mk A50
  clear A50
  replace H := Option.bind_eq_some_iff.mp H
  obtain ⟨t263, A60, H⟩ := H
  replace H : (if a0_0 = 1 then ((drumlineref1_put.f k t263 a0_3 2).bind fun t266 => ((drumlineref1_Seal.f k t266).bind fun t269 => (some (t269, 0)))) else (if a0_0 = 2 then ((drumlineref1_put.f k t263 a0_7 6).bind fun t272 => ((drumlineref1_put.f k t272 a0_4 2).bind fun t275 => ((drumlineref1_putAges.f k t275 l0_9).bind fun t278 => ((drumlineref1_Seal.f k t278).bind fun t281 => (some (t281, 0)))))) else (if a0_0 = 3 then ((drumlineref1_put.f k t263 a0_5 1).bind fun t284 => ((drumlineref1_flag.f a0_6).bind fun t287 => ((drumlineref1_put.f k t284 t287 1).bind fun t288 => ((drumlineref1_put.f k t288 a0_7 6).bind fun t291 => ((drumlineref1_Signed.f k a0_8 6).bind fun bt294 => (if t291.length + bt294.1.length < 140737488355328 then ((drumlineref1_Seal.f k (t291 ++ bt294.1)).bind fun t301 => (some (t301, 0))) else (none))))))) else (if a0_0 = 4 then ((drumlineref1_put.f k t263 a0_5 1).bind fun t304 => ((drumlineref1_putAges.f k t304 l0_9).bind fun t307 => ((drumlineref1_Seal.f k t307).bind fun t310 => (some (t310, 0))))) else (if a0_0 = 5 then ((drumlineref1_put.f k t263 a0_5 1).bind fun t313 => ((drumlineref1_put.f k t313 a0_10 1).bind fun t316 => ((drumlineref1_put.f k t316 a0_11 1).bind fun t319 => ((drumlineref1_put.f k t319 a0_12 4).bind fun t322 => ((drumlineref1_put.f k t322 (l0_13.length : Int) 1).bind fun t325 => (if t325.length + l0_13.length < 140737488355328 then ((drumlineref1_Seal.f k (t325 ++ l0_13)).bind fun t331 => (some (t331, 0))) else (none))))))) else ((drumlineref1_Seal.f k t263).bind fun t334 => (some (t334, 0)))))))) = some (r1, r2) := H
  have A6 := Aside0.mk A60
  clear A60
  by_cases c7 : a0_0 = 1
  ·rw [if_pos c7] at H
   have c7b0 : (a0_0 == 1) = true := beq_iff_eq.mpr c7
   have c7b1 : (a0_0 != 1) = false := bne_eq_false_iff_eq.mpr c7
   clear c7
   replace H := Option.bind_eq_some_iff.mp H
   obtain ⟨t266, A80, H⟩ := H
   replace H : ((drumlineref1_Seal.f k t266).bind fun t269 => (some (t269, 0))) = some (r1, r2) := H
   have A8 := Aside0.mk A80
   clear A80
   replace H := Option.bind_eq_some_iff.mp H
   obtain ⟨t269, A90, H⟩ := H
   replace H : (some (t269, 0)) = some (r1, r2) := H
   have A9 := Aside0.mk A90
   clear A90
   simp only [Option.some.injEq, Prod.mk.injEq] at H
   obtain ⟨rfl, rfl⟩ := H
   go_enter Tryd.func11, Tryd.ntmps11
   try go_wp2_with (first | ((with_reducible refine gate_dst (N := 1) rfl ?_); refine box_event ?hg (N := 1) ?hd (cs := #[.int .i64 a0_0, .int .i64 a0_1, .int .i64 a0_2, .int .i64 a0_3, .int .i64 a0_4, .int .i64 a0_5, .bool a0_6, .int .i64 a0_7, .int .i64 a0_8, .slice A0_9 l0_9.length c0_9, .int .i64 a0_10, .int .i64 a0_11, .int .i64 a0_12, .slice A0_13 l0_13.length c0_13]) (t := 25) ?hr ?_; (case hd => rfl); (case hg => rfl); (case hr => first | (go_simp; done) | (go_simp; rfl)); intro gb255 hg w10 hbox hb; have n0_ := Aside0.mk (below_step (by repeat (first | (with_reducible first | exact HB.out | apply below_alloc | apply pw_below_drewN | apply below_drew1) | exact HB.out)) hb); have n1_ := Aside0.mk (hbox); have n2_ := Aside0.mk ((by rw [hg]; exact (below_size (by repeat (first | (with_reducible first | exact HB.out | apply below_alloc | apply pw_below_drewN | apply below_drew1) | exact HB.out))) : w.heap.size ≤ gb255)); have n3_ := Aside0.mk ((by rw [hg]; exact (below_size (by repeat (first | (with_reducible first | exact HB.out | apply below_alloc | apply pw_below_drewN | apply below_drew1) | exact HB.out))) : w.heap.size ≤ gb255)); clear HB; have HB := n0_; have BK255 := n1_; have GW255 := n2_; have GE255 := n3_; clear n0_ n1_ n2_ n3_; clear hb hbox hg; obtain ⟨hcz11_0, hcz11_1, hcz11_2, hcz11_3, hcz11_4, hcz11_5, hcz11_6, hcz11_7, hcz11_8, hcz11_9, hcz11_10, hcz11_11, hcz11_12, hcz11_13⟩ := cellsK14 BK255.out; obtain ⟨hfz11_0, hfz11_1, hfz11_2, hfz11_3, hfz11_4, hfz11_5, hfz11_6, hfz11_7, hfz11_8, hfz11_9, hfz11_10, hfz11_11, hfz11_12, hfz11_13⟩ := frozK14 BK255.out) | ((with_reducible refine gate_callee (f := 13) rfl ?_); refine goesL_ (some 8) rfl rfl Tryd.func13 (by kernel_rfl) rfl #[.agg #[.int .i64 a0_0, .int .i64 a0_1, .int .i64 a0_2, .int .i64 a0_3, .int .i64 a0_4, .int .i64 a0_5, .bool a0_6, .int .i64 a0_7, .int .i64 a0_8, .slice A0_9 l0_9.length c0_9, .int .i64 a0_10, .int .i64 a0_11, .int .i64 a0_12, .slice A0_13 l0_13.length c0_13]] rfl (by (try simp only [List.map_toArray, List.map_cons, List.map_nil]); first | done | rfl | (simp only [List.length_drop, List.length_take]; rfl)) ?_; (with_reducible refine (drumlineref1_May.calls k a0_0 a0_1 a0_2 a0_3 a0_4 a0_5 a0_6 a0_7 a0_8 _ _ l0_9 a0_10 a0_11 a0_12 _ _ l0_13 true _ ?side1 ?side2 ?side3 ?side4 A2.out).mono ?_); (case side1 => repeat (first | exact (Kd.C_below HR0_9.out HB.out) | (with_reducible refine Kd.C_alloc ?_ _) | (with_reducible refine Kd.C_drewN ?_ _) | (with_reducible refine Kd.C_drew ?_))); (case side2 => exact HC0_9.out); (case side3 => repeat (first | exact (Kd.C_below HR0_13.out HB.out) | (with_reducible refine Kd.C_alloc ?_ _) | (with_reducible refine Kd.C_drewN ?_ _) | (with_reducible refine Kd.C_drew ?_))); (case side4 => exact HC0_13.out); rintro e w12 ⟨rfl, hb⟩; refine ⟨_, rfl, ?_⟩; have n0_ := Aside0.mk (blk_below (g := gb255) (by (with_reducible repeat (first | refine blk_drewN ?_ _ | refine blk_drew ?_ | refine blk_alloc ?_ _)); exact BK255.out) hb); have n1_ := Aside0.mk (below_step (by repeat (first | (with_reducible first | exact HB.out | apply below_alloc | apply pw_below_drewN | apply below_drew1 | refine below_set ?_ GE255.out) | exact HB.out)) hb); clear BK255; clear HB; have BK255 := n0_; have HB := n1_; clear n0_ n1_; (try clear hb); (try clear hb2); (try clear hk); (try clear hi)))
   have n0_ := Aside0.mk (blk_drew BK255.out)
   have n1_ := Aside0.mk (below_drew1 HB.out)
   clear BK255
   clear HB
   have BK255 := n0_
   have HB := n1_
   clear n0_ n1_
   refine start_ (n := 10) (S := fun w' => w'.cell? ⟨gb255, 0, none⟩ = some (.int .i64 a0_0) ∧ w'.cell? ⟨gb255, 1, none⟩ = some (.int .i64 a0_1) ∧ w'.cell? ⟨gb255, 2, none⟩ = some (.int .i64 a0_2) ∧ w'.cell? ⟨gb255, 3, none⟩ = some (.int .i64 a0_3) ∧ w'.cell? ⟨gb255, 4, none⟩ = some (.int .i64 a0_4) ∧ w'.cell? ⟨gb255, 5, none⟩ = some (.int .i64 a0_5) ∧ w'.cell? ⟨gb255, 6, none⟩ = some (.bool a0_6) ∧ w'.cell? ⟨gb255, 7, none⟩ = some (.int .i64 a0_7) ∧ w'.cell? ⟨gb255, 8, none⟩ = some (.int .i64 a0_8) ∧ w'.cell? ⟨gb255, 9, none⟩ = some (.slice A0_9 l0_9.length c0_9) ∧ w'.cell? ⟨gb255, 10, none⟩ = some (.int .i64 a0_10) ∧ w'.cell? ⟨gb255, 11, none⟩ = some (.int .i64 a0_11) ∧ w'.cell? ⟨gb255, 12, none⟩ = some (.int .i64 a0_12) ∧ w'.cell? ⟨gb255, 13, none⟩ = some (.slice A0_13 l0_13.length c0_13)) (ds := []) #[false, false, false, false, false, false, false, false, false, false] (by kernel_rfl) rfl rfl (cellsK14 BK255.out) (fun hHeld => ?_); refine with_tabW drumlineref1_Encode.tab3 drumlineref1_Encode.bits3 (fun HT_ HW_ => ?_)
   generalize w12.drew = w13 at BK255 HB hHeld ⊢
   refine pure_ (i := 0) (N := some 10) (v := ?_) (a' := ?_) #[true, false, false, false, false, false, false, false, false, false] rfl rfl (any_of HT_.out (by kernel_rfl)) (fun _ _ _ h => h) (Or.inl ⟨by rfl, ?_⟩) ?_ ?_
   rotate_left
   ·intro w'
    go_simp
    with_reducible rfl
   rotate_left
   ·simp only [Act.put, sAa, sBb, sCc, i64_w, i32_w]
    rfl
   refine pure_ (i := 3) (N := some 13) (v := ?_) (a' := ?_) #[true, false, false, true, false, false, false, false, false, false] rfl rfl (any_of HT_.out (by kernel_rfl)) (fun _ _ _ h => h) (Or.inl ⟨by rfl, ?_⟩) ?_ ?_
   rotate_left
   ·intro w'
    go_simp
    with_reducible rfl
   rotate_left
   ·simp only [Act.put, sAa, sBb, sCc, i64_w, i32_w]
    rfl
   refine pure_ (i := 6) (N := some 16) (v := ?_) (a' := ?_) #[true, false, false, true, false, false, true, false, false, false] rfl rfl (any_of HT_.out (by kernel_rfl)) (fun _ _ _ h => h) (Or.inl ⟨by rfl, ?_⟩) ?_ ?_
   rotate_left
   ·intro w'
    go_simp
    with_reducible rfl
   rotate_left
   ·simp only [Act.put, sAa, sBb, sCc, i64_w, i32_w]
    rfl
   refine take_ (i := 1) (N := some 11) (v := ?_) (a' := ?_) #[true, true, false, true, false, false, true, false, false, false] rfl rfl (take_ofW HT_.out HW_.out (by kernel_rfl)) (fun _ _ _ h => h) (Or.inl ⟨by rfl, ?_⟩) hHeld ?_ ?_
   rotate_left
   ·rintro w' ⟨s0, s1, s2, s3, s4, s5, s6, s7, s8, s9, s10, s11, s12, s13⟩
    go_simp
    with_reducible rfl
   rotate_left
   ·simp only [Act.put, sAa, sBb, sCc, i64_w, i32_w]
    rfl
   refine take_ (i := 4) (N := some 14) (v := ?_) (a' := ?_) #[true, true, false, true, true, false, true, false, false, false] rfl rfl (take_ofW HT_.out HW_.out (by kernel_rfl)) (fun _ _ _ h => h) (Or.inl ⟨by rfl, ?_⟩) hHeld ?_ ?_
   rotate_left
   ·rintro w' ⟨s0, s1, s2, s3, s4, s5, s6, s7, s8, s9, s10, s11, s12, s13⟩
    go_simp
    with_reducible rfl
   rotate_left
   ·simp only [Act.put, sAa, sBb, sCc, i64_w, i32_w]
    rfl
   refine take_ (i := 7) (N := some 17) (v := ?_) (a' := ?_) #[true, true, false, true, true, false, true, true, false, false] rfl rfl (take_ofW HT_.out HW_.out (by kernel_rfl)) (fun _ _ _ h => h) (Or.inl ⟨by rfl, ?_⟩) hHeld ?_ ?_
   rotate_left
   ·rintro w' ⟨s0, s1, s2, s3, s4, s5, s6, s7, s8, s9, s10, s11, s12, s13⟩
    go_simp
    with_reducible rfl
   rotate_left
   ·simp only [Act.put, sAa, sBb, sCc, i64_w, i32_w]
    rfl
   refine one_ (i := 2) (N := some 12) #[true, true, true, true, true, false, true, true, false, false] rfl rfl (one_of HT_.out (by kernel_rfl)) (by decide) (fun K hK => ?_)
   refine goes_ Tryd.func25 (by kernel_rfl) rfl #[.slice none 0 0, .int .i64 a0_0, .int .i64 1] (by rfl) rfl rfl (by (try simp only [List.map_toArray, List.map_cons, List.map_nil]); first | done | rfl | (simp only [List.length_drop, List.length_take]; rfl)) ?_
   refine (drumlineref1_put.calls k (fun k_ => some k_ = (.slice none 0 0 : Value).ownBlock) (.slice none 0 0) ([] : List Int) a0_0 1 t257 w _ ?side1 ?side2 A4.out).mono ?_
   (case side1 => repeat (first | (with_reducible first | exact HB.out | apply below_alloc | apply pw_below_drewN | apply below_drew1 | refine below_set ?_ GE255.out) | exact HB.out))
   (case side2 => exact Kd.R_nil _ _ _ _ _)
   rintro e w14 ⟨v258, rfl, ho0, hb, hkp⟩
   refine ⟨_, rfl, ?_⟩
   have n0_ := Aside0.mk (blk_kept (by (with_reducible repeat (first | refine blk_drewN ?_ _ | refine blk_drew ?_ | refine blk_alloc ?_ _)); exact BK255.out) hkp (fun hs_ => (fun e_ => by simp [Value.ownBlock] at e_) hs_))
   have n1_ := Aside0.mk (Kd.R_mono (ok' := fun k_ => True) ho0 (fun k_ hk_ => trivial))
   have n2_ := Aside0.mk (hb)
   clear BK255
   clear HB
   have BK255 := n0_
   have HO259 := n1_
   have HB := n2_
   clear n0_ n1_ n2_
   (try clear hb)
   (try clear hkp)
   (try clear ho0)
   obtain ⟨Ao15, co15, eo15⟩ := Kd.R_slice HO259.out
   (first | subst eo15 | (injection eo15 with f1_ f2_ f3_; have f4_ := f1_.symm; have f5_ := f3_.symm; clear f1_ f2_ f3_; subst f4_; subst f5_))
   refine hK.out _ _ (cellsK14 BK255.out) (fun hHeld => ?_)
   clear hK K
   refine norm_ (a' := ?_) ?_ ?_
   rotate_left
   ·show Act.put _ (some 12) _ = _
    simp only [Act.put, sAa, sBb, sCc, i64_w, i32_w]
    rfl
   refine one_ (i := 5) (N := some 15) #[true, true, true, true, true, true, true, true, false, false] rfl rfl (one_of HT_.out (by kernel_rfl)) (by decide) (fun K hK => ?_)
   refine goes_ Tryd.func25 (by kernel_rfl) rfl #[.slice Ao15 t257.length co15, .int .i64 a0_1, .int .i64 1] (by rfl) rfl rfl (by (try simp only [List.map_toArray, List.map_cons, List.map_nil]); first | done | rfl | (simp only [List.length_drop, List.length_take]; rfl)) ?_
   with_reducible refine (drumlineref1_put.calls k (fun k_ => some k_ = (.slice Ao15 t257.length co15 : Value).ownBlock) (.slice Ao15 t257.length co15) t257 a0_1 1 t260 w _ ?side1 ?side2 A5.out).mono ?_
   (case side1 => repeat (first | (with_reducible first | exact HB.out | apply below_alloc | apply pw_below_drewN | apply below_drew1 | refine below_set ?_ GE255.out) | exact HB.out))
   (case side2 => exact Kd.R_tight rfl HO259.out)
   rintro e w16 ⟨v261, rfl, ho0, hb, hkp⟩
   refine ⟨_, rfl, ?_⟩
   have n0_ := Aside0.mk (blk_kept (by (with_reducible repeat (first | refine blk_drewN ?_ _ | refine blk_drew ?_ | refine blk_alloc ?_ _)); exact BK255.out) hkp (fun hs_ => (fun e_ => (Kd.R_ne HO259.out BK255.out (by decide)) e_) hs_))
   have n1_ := Aside0.mk (Kd.R_mono (ok' := fun k_ => True) ho0 (fun k_ hk_ => trivial))
   have n2_ := Aside0.mk (hb)
   clear BK255
   clear HB
   clear HO259
   have BK255 := n0_
   have HO262 := n1_
   have HB := n2_
   clear n0_ n1_ n2_
   (try clear hb)
   (try clear hkp)
   (try clear ho0)
   obtain ⟨Ao17, co17, eo17⟩ := Kd.R_slice HO262.out
   (first | subst eo17 | (injection eo17 with f1_ f2_ f3_; have f4_ := f1_.symm; have f5_ := f3_.symm; clear f1_ f2_ f3_; subst f4_; subst f5_))
   refine hK.out _ _ (cellsK14 BK255.out) (fun hHeld => ?_)
   clear hK K
   refine norm_ (a' := ?_) ?_ ?_
   rotate_left
   ·show Act.put _ (some 15) _ = _
    simp only [Act.put, sAa, sBb, sCc, i64_w, i32_w]
    rfl
   refine one_ (i := 8) (N := some 18) #[true, true, true, true, true, true, true, true, true, false] rfl rfl (one_of HT_.out (by kernel_rfl)) (by decide) (fun K hK => ?_)
   refine goes_ Tryd.func25 (by kernel_rfl) rfl #[.slice Ao17 t260.length co17, .int .i64 a0_2, .int .i64 1] (by rfl) rfl rfl (by (try simp only [List.map_toArray, List.map_cons, List.map_nil]); first | done | rfl | (simp only [List.length_drop, List.length_take]; rfl)) ?_
   with_reducible refine (drumlineref1_put.calls k (fun k_ => some k_ = (.slice Ao17 t260.length co17 : Value).ownBlock) (.slice Ao17 t260.length co17) t260 a0_2 1 t263 w _ ?side1 ?side2 A6.out).mono ?_
   (case side1 => repeat (first | (with_reducible first | exact HB.out | apply below_alloc | apply pw_below_drewN | apply below_drew1 | refine below_set ?_ GE255.out) | exact HB.out))
   (case side2 => exact Kd.R_tight rfl HO262.out)
   rintro e w18 ⟨v264, rfl, ho0, hb, hkp⟩
   refine ⟨_, rfl, ?_⟩
   have n0_ := Aside0.mk (blk_kept (by (with_reducible repeat (first | refine blk_drewN ?_ _ | refine blk_drew ?_ | refine blk_alloc ?_ _)); exact BK255.out) hkp (fun hs_ => (fun e_ => (Kd.R_ne HO262.out BK255.out (by decide)) e_) hs_))
   have n1_ := Aside0.mk (Kd.R_mono (ok' := fun k_ => True) ho0 (fun k_ hk_ => trivial))
   have n2_ := Aside0.mk (hb)
   clear BK255
   clear HB
   clear HO262
   have BK255 := n0_
   have HO265 := n1_
   have HB := n2_
   clear n0_ n1_ n2_
   (try clear hb)
   (try clear hkp)
   (try clear ho0)
   refine hK.out _ _ (cellsK14 BK255.out) (fun hHeld => ?_)
   clear hK K
   refine norm_ (a' := ?_) ?_ ?_
   rotate_left
   ·show Act.put _ (some 18) _ = _
    simp only [Act.put, sAa, sBb, sCc, i64_w, i32_w]
    rfl
   refine pure_ (i := 9) (N := some 4) (v := ?_) (a' := ?_) #[true, true, true, true, true, true, true, true, true, true] rfl rfl (any_of HT_.out (by kernel_rfl)) (fun _ _ _ h => h) (Or.inl ⟨by rfl, ?_⟩) ?_ ?_
   rotate_left
   ·intro w'
    go_simp
    with_reducible rfl
   rotate_left
   ·simp only [Act.put, sAa, sBb, sCc, i64_w, i32_w]
    rfl
   refine done_ (done_of HT_.out (by kernel_rfl)) ?_
   obtain ⟨hcz19_0, hcz19_1, hcz19_2, hcz19_3, hcz19_4, hcz19_5, hcz19_6, hcz19_7, hcz19_8, hcz19_9, hcz19_10, hcz19_11, hcz19_12, hcz19_13⟩ := cellsK14 BK255.out
   obtain ⟨hfz19_0, hfz19_1, hfz19_2, hfz19_3, hfz19_4, hfz19_5, hfz19_6, hfz19_7, hfz19_8, hfz19_9, hfz19_10, hfz19_11, hfz19_12, hfz19_13⟩ := frozK14 BK255.out
   obtain ⟨Ao20, co20, eo20⟩ := Kd.R_slice HO265.out
   subst eo20
   try go_wp2_with (first | ((with_reducible refine gate_callee (f := 25) rfl ?_); refine goesL_ (some 26) rfl rfl Tryd.func25 (by kernel_rfl) rfl #[.slice Ao20 t263.length co20, .int .i64 a0_3, .int .i64 2] rfl (by (try simp only [List.map_toArray, List.map_cons, List.map_nil]); first | done | rfl | (simp only [List.length_drop, List.length_take]; rfl)) ?_; (with_reducible refine (drumlineref1_put.calls k (fun k_ => some k_ = (.slice Ao20 t263.length co20 : Value).ownBlock) (.slice Ao20 t263.length co20) t263 a0_3 2 t266 w _ ?side1 ?side2 A8.out).mono ?_); (case side1 => repeat (first | (with_reducible first | exact HB.out | apply below_alloc | apply pw_below_drewN | apply below_drew1 | refine below_set ?_ GE255.out) | exact HB.out)); (case side2 => exact Kd.R_tight rfl HO265.out); rintro e w21 ⟨v267, rfl, ho0, hb, hkp⟩; refine ⟨_, rfl, ?_⟩; have n0_ := Aside0.mk (blk_kept (by (with_reducible repeat (first | refine blk_drewN ?_ _ | refine blk_drew ?_ | refine blk_alloc ?_ _)); exact BK255.out) hkp (fun hs_ => (fun e_ => (Kd.R_ne HO265.out BK255.out (by decide)) e_) hs_)); have n1_ := Aside0.mk (Kd.R_mono (ok' := fun k_ => True) ho0 (fun k_ hk_ => trivial)); have n2_ := Aside0.mk (hb); clear BK255; clear HB; clear HO265; have BK255 := n0_; have HO268 := n1_; have HB := n2_; clear n0_ n1_ n2_; (try clear hb); (try clear hkp); (try clear ho0); obtain ⟨Ao22, co22, eo22⟩ := Kd.R_slice HO268.out; subst eo22) | ((with_reducible refine gate_callee (f := 18) rfl ?_); refine goesL_ (some 94) rfl rfl Tryd.func18 (by kernel_rfl) rfl #[.slice Ao22 t266.length co22] rfl (by (try simp only [List.map_toArray, List.map_cons, List.map_nil]); first | done | rfl | (simp only [List.length_drop, List.length_take]; rfl)) ?_; (with_reducible refine (drumlineref1_Seal.calls k _ _ t266 t269 _ ?side1 ?side2 A9.out).mono ?_); (case side1 => repeat (first | exact (Kd.R_reads' HO268.out).2.2 | (with_reducible refine Kd.C_alloc ?_ _) | (with_reducible refine Kd.C_drewN ?_ _) | (with_reducible refine Kd.C_drew ?_))); (case side2 => exact (Kd.R_reads' HO268.out).2.1); rintro e w23 ⟨v270, rfl, ho0, hb⟩; refine ⟨_, rfl, ?_⟩; have n0_ := Aside0.mk (Kd.R_elder' (by (with_reducible repeat (first | apply Kd.R_alloc | apply Kd.R_drewN | apply Kd.R_drew)); exact HO268.out) (Kd.R_base ho0) hb); have n1_ := Aside0.mk (Kd.R_lower (Kd.R_new' ho0 (Kd.R_lt (by (with_reducible repeat (first | apply Kd.R_alloc | apply Kd.R_drewN | apply Kd.R_drew)); exact HO268.out))) (below_size (by repeat (first | (with_reducible first | exact HB.out | apply below_alloc | apply pw_below_drewN | apply below_drew1 | refine below_set ?_ GE255.out) | exact HB.out)))); have n2_ := Aside0.mk (blk_below (g := gb255) (by (with_reducible repeat (first | refine blk_drewN ?_ _ | refine blk_drew ?_ | refine blk_alloc ?_ _)); exact BK255.out) hb); have n3_ := Aside0.mk (below_step (by repeat (first | (with_reducible first | exact HB.out | apply below_alloc | apply pw_below_drewN | apply below_drew1 | refine below_set ?_ GE255.out) | exact HB.out)) hb); clear HO268; clear BK255; clear HB; have HO268 := n0_; have HO271 := n1_; have BK255 := n2_; have HB := n3_; clear n0_ n1_ n2_ n3_; (try clear hb); (try clear hb2); (try clear hk); (try clear hi); (try clear ho0)))
   go_ret2
   exact ⟨_, by first | rfl | (simp [errW_none, errW_some] <;> rfl) | (simp [*, errW_none, errW_some] <;> rfl), by (with_reducible repeat (first | apply Kd.R_alloc | apply Kd.R_drewN | apply Kd.R_drew)); exact Kd.R_mono HO271.out (fun _ hk => trivial), by repeat (first | (with_reducible first | exact HB.out | apply below_alloc | apply pw_below_drewN | apply below_drew1 | refine below_set ?_ GE255.out) | exact HB.out)⟩
  ·rw [if_neg c7] at H
   have c7b0 : (a0_0 == 1) = false := beq_eq_false_iff_ne.mpr c7
   have c7b1 : (a0_0 != 1) = true := bne_iff_ne.mpr c7
   by_cases c24 : a0_0 = 2
   ·rw [if_pos c24] at H
    have c24b0 : (a0_0 == 2) = true := beq_iff_eq.mpr c24
    have c24b1 : (a0_0 != 2) = false := bne_eq_false_iff_eq.mpr c24
    clear c24
    replace H := Option.bind_eq_some_iff.mp H
    obtain ⟨t272, A250, H⟩ := H
    replace H : ((drumlineref1_put.f k t272 a0_4 2).bind fun t275 => ((drumlineref1_putAges.f k t275 l0_9).bind fun t278 => ((drumlineref1_Seal.f k t278).bind fun t281 => (some (t281, 0))))) = some (r1, r2) := H
    have A25 := Aside0.mk A250
    clear A250
    replace H := Option.bind_eq_some_iff.mp H
    obtain ⟨t275, A260, H⟩ := H
    replace H : ((drumlineref1_putAges.f k t275 l0_9).bind fun t278 => ((drumlineref1_Seal.f k t278).bind fun t281 => (some (t281, 0)))) = some (r1, r2) := H
    have A26 := Aside0.mk A260
    clear A260
    replace H := Option.bind_eq_some_iff.mp H
    obtain ⟨t278, A270, H⟩ := H
    replace H : ((drumlineref1_Seal.f k t278).bind fun t281 => (some (t281, 0))) = some (r1, r2) := H
    have A27 := Aside0.mk A270
    clear A270
    replace H := Option.bind_eq_some_iff.mp H
    obtain ⟨t281, A280, H⟩ := H
    replace H : (some (t281, 0)) = some (r1, r2) := H
    have A28 := Aside0.mk A280
    clear A280
    simp only [Option.some.injEq, Prod.mk.injEq] at H
    obtain ⟨rfl, rfl⟩ := H
    go_enter Tryd.func11, Tryd.ntmps11
    try go_wp2_with (first | ((with_reducible refine gate_dst (N := 1) rfl ?_); refine box_event ?hg (N := 1) ?hd (cs := #[.int .i64 a0_0, .int .i64 a0_1, .int .i64 a0_2, .int .i64 a0_3, .int .i64 a0_4, .int .i64 a0_5, .bool a0_6, .int .i64 a0_7, .int .i64 a0_8, .slice A0_9 l0_9.length c0_9, .int .i64 a0_10, .int .i64 a0_11, .int .i64 a0_12, .slice A0_13 l0_13.length c0_13]) (t := 25) ?hr ?_; (case hd => rfl); (case hg => rfl); (case hr => first | (go_simp; done) | (go_simp; rfl)); intro gb255 hg w29 hbox hb; have n0_ := Aside0.mk (below_step (by repeat (first | (with_reducible first | exact HB.out | apply below_alloc | apply pw_below_drewN | apply below_drew1) | exact HB.out)) hb); have n1_ := Aside0.mk (hbox); have n2_ := Aside0.mk ((by rw [hg]; exact (below_size (by repeat (first | (with_reducible first | exact HB.out | apply below_alloc | apply pw_below_drewN | apply below_drew1) | exact HB.out))) : w.heap.size ≤ gb255)); have n3_ := Aside0.mk ((by rw [hg]; exact (below_size (by repeat (first | (with_reducible first | exact HB.out | apply below_alloc | apply pw_below_drewN | apply below_drew1) | exact HB.out))) : w.heap.size ≤ gb255)); clear HB; have HB := n0_; have BK255 := n1_; have GW255 := n2_; have GE255 := n3_; clear n0_ n1_ n2_ n3_; clear hb hbox hg; obtain ⟨hcz30_0, hcz30_1, hcz30_2, hcz30_3, hcz30_4, hcz30_5, hcz30_6, hcz30_7, hcz30_8, hcz30_9, hcz30_10, hcz30_11, hcz30_12, hcz30_13⟩ := cellsK14 BK255.out; obtain ⟨hfz30_0, hfz30_1, hfz30_2, hfz30_3, hfz30_4, hfz30_5, hfz30_6, hfz30_7, hfz30_8, hfz30_9, hfz30_10, hfz30_11, hfz30_12, hfz30_13⟩ := frozK14 BK255.out) | ((with_reducible refine gate_callee (f := 13) rfl ?_); refine goesL_ (some 8) rfl rfl Tryd.func13 (by kernel_rfl) rfl #[.agg #[.int .i64 a0_0, .int .i64 a0_1, .int .i64 a0_2, .int .i64 a0_3, .int .i64 a0_4, .int .i64 a0_5, .bool a0_6, .int .i64 a0_7, .int .i64 a0_8, .slice A0_9 l0_9.length c0_9, .int .i64 a0_10, .int .i64 a0_11, .int .i64 a0_12, .slice A0_13 l0_13.length c0_13]] rfl (by (try simp only [List.map_toArray, List.map_cons, List.map_nil]); first | done | rfl | (simp only [List.length_drop, List.length_take]; rfl)) ?_; (with_reducible refine (drumlineref1_May.calls k a0_0 a0_1 a0_2 a0_3 a0_4 a0_5 a0_6 a0_7 a0_8 _ _ l0_9 a0_10 a0_11 a0_12 _ _ l0_13 true _ ?side1 ?side2 ?side3 ?side4 A2.out).mono ?_); (case side1 => repeat (first | exact (Kd.C_below HR0_9.out HB.out) | (with_reducible refine Kd.C_alloc ?_ _) | (with_reducible refine Kd.C_drewN ?_ _) | (with_reducible refine Kd.C_drew ?_))); (case side2 => exact HC0_9.out); (case side3 => repeat (first | exact (Kd.C_below HR0_13.out HB.out) | (with_reducible refine Kd.C_alloc ?_ _) | (with_reducible refine Kd.C_drewN ?_ _) | (with_reducible refine Kd.C_drew ?_))); (case side4 => exact HC0_13.out); rintro e w31 ⟨rfl, hb⟩; refine ⟨_, rfl, ?_⟩; have n0_ := Aside0.mk (blk_below (g := gb255) (by (with_reducible repeat (first | refine blk_drewN ?_ _ | refine blk_drew ?_ | refine blk_alloc ?_ _)); exact BK255.out) hb); have n1_ := Aside0.mk (below_step (by repeat (first | (with_reducible first | exact HB.out | apply below_alloc | apply pw_below_drewN | apply below_drew1 | refine below_set ?_ GE255.out) | exact HB.out)) hb); clear BK255; clear HB; have BK255 := n0_; have HB := n1_; clear n0_ n1_; (try clear hb); (try clear hb2); (try clear hk); (try clear hi)))
    have n0_ := Aside0.mk (blk_drew BK255.out)
    have n1_ := Aside0.mk (below_drew1 HB.out)
    clear BK255
    clear HB
    have BK255 := n0_
    have HB := n1_
    clear n0_ n1_
    refine start_ (n := 10) (S := fun w' => w'.cell? ⟨gb255, 0, none⟩ = some (.int .i64 a0_0) ∧ w'.cell? ⟨gb255, 1, none⟩ = some (.int .i64 a0_1) ∧ w'.cell? ⟨gb255, 2, none⟩ = some (.int .i64 a0_2) ∧ w'.cell? ⟨gb255, 3, none⟩ = some (.int .i64 a0_3) ∧ w'.cell? ⟨gb255, 4, none⟩ = some (.int .i64 a0_4) ∧ w'.cell? ⟨gb255, 5, none⟩ = some (.int .i64 a0_5) ∧ w'.cell? ⟨gb255, 6, none⟩ = some (.bool a0_6) ∧ w'.cell? ⟨gb255, 7, none⟩ = some (.int .i64 a0_7) ∧ w'.cell? ⟨gb255, 8, none⟩ = some (.int .i64 a0_8) ∧ w'.cell? ⟨gb255, 9, none⟩ = some (.slice A0_9 l0_9.length c0_9) ∧ w'.cell? ⟨gb255, 10, none⟩ = some (.int .i64 a0_10) ∧ w'.cell? ⟨gb255, 11, none⟩ = some (.int .i64 a0_11) ∧ w'.cell? ⟨gb255, 12, none⟩ = some (.int .i64 a0_12) ∧ w'.cell? ⟨gb255, 13, none⟩ = some (.slice A0_13 l0_13.length c0_13)) (ds := []) #[false, false, false, false, false, false, false, false, false, false] (by kernel_rfl) rfl rfl (cellsK14 BK255.out) (fun hHeld => ?_); refine with_tabW drumlineref1_Encode.tab3 drumlineref1_Encode.bits3 (fun HT_ HW_ => ?_)
    generalize w31.drew = w32 at BK255 HB hHeld ⊢
    refine pure_ (i := 0) (N := some 10) (v := ?_) (a' := ?_) #[true, false, false, false, false, false, false, false, false, false] rfl rfl (any_of HT_.out (by kernel_rfl)) (fun _ _ _ h => h) (Or.inl ⟨by rfl, ?_⟩) ?_ ?_
    rotate_left
    ·intro w'
     go_simp
     with_reducible rfl
    rotate_left
    ·simp only [Act.put, sAa, sBb, sCc, i64_w, i32_w]
     rfl
    refine pure_ (i := 3) (N := some 13) (v := ?_) (a' := ?_) #[true, false, false, true, false, false, false, false, false, false] rfl rfl (any_of HT_.out (by kernel_rfl)) (fun _ _ _ h => h) (Or.inl ⟨by rfl, ?_⟩) ?_ ?_
    rotate_left
    ·intro w'
     go_simp
     with_reducible rfl
    rotate_left
    ·simp only [Act.put, sAa, sBb, sCc, i64_w, i32_w]
     rfl
    refine pure_ (i := 6) (N := some 16) (v := ?_) (a' := ?_) #[true, false, false, true, false, false, true, false, false, false] rfl rfl (any_of HT_.out (by kernel_rfl)) (fun _ _ _ h => h) (Or.inl ⟨by rfl, ?_⟩) ?_ ?_
    rotate_left
    ·intro w'
     go_simp
     with_reducible rfl
    rotate_left
    ·simp only [Act.put, sAa, sBb, sCc, i64_w, i32_w]
     rfl
    refine take_ (i := 1) (N := some 11) (v := ?_) (a' := ?_) #[true, true, false, true, false, false, true, false, false, false] rfl rfl (take_ofW HT_.out HW_.out (by kernel_rfl)) (fun _ _ _ h => h) (Or.inl ⟨by rfl, ?_⟩) hHeld ?_ ?_
    rotate_left
    ·rintro w' ⟨s0, s1, s2, s3, s4, s5, s6, s7, s8, s9, s10, s11, s12, s13⟩
     go_simp
     with_reducible rfl
    rotate_left
    ·simp only [Act.put, sAa, sBb, sCc, i64_w, i32_w]
     rfl
    refine take_ (i := 4) (N := some 14) (v := ?_) (a' := ?_) #[true, true, false, true, true, false, true, false, false, false] rfl rfl (take_ofW HT_.out HW_.out (by kernel_rfl)) (fun _ _ _ h => h) (Or.inl ⟨by rfl, ?_⟩) hHeld ?_ ?_
    rotate_left
    ·rintro w' ⟨s0, s1, s2, s3, s4, s5, s6, s7, s8, s9, s10, s11, s12, s13⟩
     go_simp
     with_reducible rfl
    rotate_left
    ·simp only [Act.put, sAa, sBb, sCc, i64_w, i32_w]
     rfl
    refine take_ (i := 7) (N := some 17) (v := ?_) (a' := ?_) #[true, true, false, true, true, false, true, true, false, false] rfl rfl (take_ofW HT_.out HW_.out (by kernel_rfl)) (fun _ _ _ h => h) (Or.inl ⟨by rfl, ?_⟩) hHeld ?_ ?_
    rotate_left
    ·rintro w' ⟨s0, s1, s2, s3, s4, s5, s6, s7, s8, s9, s10, s11, s12, s13⟩
     go_simp
     with_reducible rfl
    rotate_left
    ·simp only [Act.put, sAa, sBb, sCc, i64_w, i32_w]
     rfl
    refine one_ (i := 2) (N := some 12) #[true, true, true, true, true, false, true, true, false, false] rfl rfl (one_of HT_.out (by kernel_rfl)) (by decide) (fun K hK => ?_)
    refine goes_ Tryd.func25 (by kernel_rfl) rfl #[.slice none 0 0, .int .i64 a0_0, .int .i64 1] (by rfl) rfl rfl (by (try simp only [List.map_toArray, List.map_cons, List.map_nil]); first | done | rfl | (simp only [List.length_drop, List.length_take]; rfl)) ?_
    refine (drumlineref1_put.calls k (fun k_ => some k_ = (.slice none 0 0 : Value).ownBlock) (.slice none 0 0) ([] : List Int) a0_0 1 t257 w _ ?side1 ?side2 A4.out).mono ?_
    (case side1 => repeat (first | (with_reducible first | exact HB.out | apply below_alloc | apply pw_below_drewN | apply below_drew1 | refine below_set ?_ GE255.out) | exact HB.out))
    (case side2 => exact Kd.R_nil _ _ _ _ _)
    rintro e w33 ⟨v258, rfl, ho0, hb, hkp⟩
    refine ⟨_, rfl, ?_⟩
    have n0_ := Aside0.mk (blk_kept (by (with_reducible repeat (first | refine blk_drewN ?_ _ | refine blk_drew ?_ | refine blk_alloc ?_ _)); exact BK255.out) hkp (fun hs_ => (fun e_ => by simp [Value.ownBlock] at e_) hs_))
    have n1_ := Aside0.mk (Kd.R_mono (ok' := fun k_ => True) ho0 (fun k_ hk_ => trivial))
    have n2_ := Aside0.mk (hb)
    clear BK255
    clear HB
    have BK255 := n0_
    have HO259 := n1_
    have HB := n2_
    clear n0_ n1_ n2_
    (try clear hb)
    (try clear hkp)
    (try clear ho0)
    obtain ⟨Ao34, co34, eo34⟩ := Kd.R_slice HO259.out
    (first | subst eo34 | (injection eo34 with f1_ f2_ f3_; have f4_ := f1_.symm; have f5_ := f3_.symm; clear f1_ f2_ f3_; subst f4_; subst f5_))
    refine hK.out _ _ (cellsK14 BK255.out) (fun hHeld => ?_)
    clear hK K
    refine norm_ (a' := ?_) ?_ ?_
    rotate_left
    ·show Act.put _ (some 12) _ = _
     simp only [Act.put, sAa, sBb, sCc, i64_w, i32_w]
     rfl
    refine one_ (i := 5) (N := some 15) #[true, true, true, true, true, true, true, true, false, false] rfl rfl (one_of HT_.out (by kernel_rfl)) (by decide) (fun K hK => ?_)
    refine goes_ Tryd.func25 (by kernel_rfl) rfl #[.slice Ao34 t257.length co34, .int .i64 a0_1, .int .i64 1] (by rfl) rfl rfl (by (try simp only [List.map_toArray, List.map_cons, List.map_nil]); first | done | rfl | (simp only [List.length_drop, List.length_take]; rfl)) ?_
    with_reducible refine (drumlineref1_put.calls k (fun k_ => some k_ = (.slice Ao34 t257.length co34 : Value).ownBlock) (.slice Ao34 t257.length co34) t257 a0_1 1 t260 w _ ?side1 ?side2 A5.out).mono ?_
    (case side1 => repeat (first | (with_reducible first | exact HB.out | apply below_alloc | apply pw_below_drewN | apply below_drew1 | refine below_set ?_ GE255.out) | exact HB.out))
    (case side2 => exact Kd.R_tight rfl HO259.out)
    rintro e w35 ⟨v261, rfl, ho0, hb, hkp⟩
    refine ⟨_, rfl, ?_⟩
    have n0_ := Aside0.mk (blk_kept (by (with_reducible repeat (first | refine blk_drewN ?_ _ | refine blk_drew ?_ | refine blk_alloc ?_ _)); exact BK255.out) hkp (fun hs_ => (fun e_ => (Kd.R_ne HO259.out BK255.out (by decide)) e_) hs_))
    have n1_ := Aside0.mk (Kd.R_mono (ok' := fun k_ => True) ho0 (fun k_ hk_ => trivial))
    have n2_ := Aside0.mk (hb)
    clear BK255
    clear HB
    clear HO259
    have BK255 := n0_
    have HO262 := n1_
    have HB := n2_
    clear n0_ n1_ n2_
    (try clear hb)
    (try clear hkp)
    (try clear ho0)
    obtain ⟨Ao36, co36, eo36⟩ := Kd.R_slice HO262.out
    (first | subst eo36 | (injection eo36 with f1_ f2_ f3_; have f4_ := f1_.symm; have f5_ := f3_.symm; clear f1_ f2_ f3_; subst f4_; subst f5_))
    refine hK.out _ _ (cellsK14 BK255.out) (fun hHeld => ?_)
    clear hK K
    refine norm_ (a' := ?_) ?_ ?_
    rotate_left
    ·show Act.put _ (some 15) _ = _
     simp only [Act.put, sAa, sBb, sCc, i64_w, i32_w]
     rfl
    refine one_ (i := 8) (N := some 18) #[true, true, true, true, true, true, true, true, true, false] rfl rfl (one_of HT_.out (by kernel_rfl)) (by decide) (fun K hK => ?_)
    refine goes_ Tryd.func25 (by kernel_rfl) rfl #[.slice Ao36 t260.length co36, .int .i64 a0_2, .int .i64 1] (by rfl) rfl rfl (by (try simp only [List.map_toArray, List.map_cons, List.map_nil]); first | done | rfl | (simp only [List.length_drop, List.length_take]; rfl)) ?_
    with_reducible refine (drumlineref1_put.calls k (fun k_ => some k_ = (.slice Ao36 t260.length co36 : Value).ownBlock) (.slice Ao36 t260.length co36) t260 a0_2 1 t263 w _ ?side1 ?side2 A6.out).mono ?_
    (case side1 => repeat (first | (with_reducible first | exact HB.out | apply below_alloc | apply pw_below_drewN | apply below_drew1 | refine below_set ?_ GE255.out) | exact HB.out))
    (case side2 => exact Kd.R_tight rfl HO262.out)
    rintro e w37 ⟨v264, rfl, ho0, hb, hkp⟩
    refine ⟨_, rfl, ?_⟩
    have n0_ := Aside0.mk (blk_kept (by (with_reducible repeat (first | refine blk_drewN ?_ _ | refine blk_drew ?_ | refine blk_alloc ?_ _)); exact BK255.out) hkp (fun hs_ => (fun e_ => (Kd.R_ne HO262.out BK255.out (by decide)) e_) hs_))
    have n1_ := Aside0.mk (Kd.R_mono (ok' := fun k_ => True) ho0 (fun k_ hk_ => trivial))
    have n2_ := Aside0.mk (hb)
    clear BK255
    clear HB
    clear HO262
    have BK255 := n0_
    have HO265 := n1_
    have HB := n2_
    clear n0_ n1_ n2_
    (try clear hb)
    (try clear hkp)
    (try clear ho0)
    refine hK.out _ _ (cellsK14 BK255.out) (fun hHeld => ?_)
    clear hK K
    refine norm_ (a' := ?_) ?_ ?_
    rotate_left
    ·show Act.put _ (some 18) _ = _
     simp only [Act.put, sAa, sBb, sCc, i64_w, i32_w]
     rfl
    refine pure_ (i := 9) (N := some 4) (v := ?_) (a' := ?_) #[true, true, true, true, true, true, true, true, true, true] rfl rfl (any_of HT_.out (by kernel_rfl)) (fun _ _ _ h => h) (Or.inl ⟨by rfl, ?_⟩) ?_ ?_
    rotate_left
    ·intro w'
     go_simp
     with_reducible rfl
    rotate_left
    ·simp only [Act.put, sAa, sBb, sCc, i64_w, i32_w]
     rfl
    refine done_ (done_of HT_.out (by kernel_rfl)) ?_
    obtain ⟨hcz38_0, hcz38_1, hcz38_2, hcz38_3, hcz38_4, hcz38_5, hcz38_6, hcz38_7, hcz38_8, hcz38_9, hcz38_10, hcz38_11, hcz38_12, hcz38_13⟩ := cellsK14 BK255.out
    obtain ⟨hfz38_0, hfz38_1, hfz38_2, hfz38_3, hfz38_4, hfz38_5, hfz38_6, hfz38_7, hfz38_8, hfz38_9, hfz38_10, hfz38_11, hfz38_12, hfz38_13⟩ := frozK14 BK255.out
    try go_wp2
    have n0_ := Aside0.mk (Kd.R_drew HO265.out)
    have n1_ := Aside0.mk (blk_drew BK255.out)
    have n2_ := Aside0.mk (below_drew1 HB.out)
    clear HO265
    clear BK255
    clear HB
    have HO265 := n0_
    have BK255 := n1_
    have HB := n2_
    clear n0_ n1_ n2_
    obtain ⟨Ao40, co40, eo40⟩ := Kd.R_slice HO265.out
    (first | subst eo40 | (injection eo40 with f1_ f2_ f3_; have f4_ := f1_.symm; have f5_ := f3_.symm; clear f1_ f2_ f3_; subst f4_; subst f5_))
    refine start_ (n := 11) (S := fun w' => w'.cell? ⟨gb255, 0, none⟩ = some (.int .i64 a0_0) ∧ w'.cell? ⟨gb255, 1, none⟩ = some (.int .i64 a0_1) ∧ w'.cell? ⟨gb255, 2, none⟩ = some (.int .i64 a0_2) ∧ w'.cell? ⟨gb255, 3, none⟩ = some (.int .i64 a0_3) ∧ w'.cell? ⟨gb255, 4, none⟩ = some (.int .i64 a0_4) ∧ w'.cell? ⟨gb255, 5, none⟩ = some (.int .i64 a0_5) ∧ w'.cell? ⟨gb255, 6, none⟩ = some (.bool a0_6) ∧ w'.cell? ⟨gb255, 7, none⟩ = some (.int .i64 a0_7) ∧ w'.cell? ⟨gb255, 8, none⟩ = some (.int .i64 a0_8) ∧ w'.cell? ⟨gb255, 9, none⟩ = some (.slice A0_9 l0_9.length c0_9) ∧ w'.cell? ⟨gb255, 10, none⟩ = some (.int .i64 a0_10) ∧ w'.cell? ⟨gb255, 11, none⟩ = some (.int .i64 a0_11) ∧ w'.cell? ⟨gb255, 12, none⟩ = some (.int .i64 a0_12) ∧ w'.cell? ⟨gb255, 13, none⟩ = some (.slice A0_13 l0_13.length c0_13)) (ds := []) #[false, false, false, false, false, false, false, false, false, false, false] (by kernel_rfl) rfl rfl (cellsK14 BK255.out) (fun hHeld => ?_); refine with_tabW drumlineref1_Encode.tab8 drumlineref1_Encode.bits8 (fun HT_ HW_ => ?_)
    generalize w37.drew = w39 at HO265 BK255 HB hHeld ⊢
    refine pure_ (i := 0) (N := some 29) (v := ?_) (a' := ?_) #[true, false, false, false, false, false, false, false, false, false, false] rfl rfl (any_of HT_.out (by kernel_rfl)) (fun _ _ _ h => h) (Or.inl ⟨by rfl, ?_⟩) ?_ ?_
    rotate_left
    ·intro w'
     go_simp
     with_reducible rfl
    rotate_left
    ·simp only [Act.put, sAa, sBb, sCc, i64_w, i32_w]
     rfl
    refine pure_ (i := 1) (N := some 30) (v := ?_) (a' := ?_) #[true, true, false, false, false, false, false, false, false, false, false] rfl rfl (any_of HT_.out (by kernel_rfl)) (fun _ _ _ h => h) (Or.inl ⟨by rfl, ?_⟩) ?_ ?_
    rotate_left
    ·intro w'
     go_simp
     with_reducible rfl
    rotate_left
    ·simp only [Act.put, sAa, sBb, sCc, i64_w, i32_w]
     rfl
    refine pure_ (i := 4) (N := some 33) (v := ?_) (a' := ?_) #[true, true, false, false, true, false, false, false, false, false, false] rfl rfl (any_of HT_.out (by kernel_rfl)) (fun _ _ _ h => h) (Or.inl ⟨by rfl, ?_⟩) ?_ ?_
    rotate_left
    ·intro w'
     go_simp
     with_reducible rfl
    rotate_left
    ·simp only [Act.put, sAa, sBb, sCc, i64_w, i32_w]
     rfl
    refine pure_ (i := 7) (N := some 36) (v := ?_) (a' := ?_) #[true, true, false, false, true, false, false, true, false, false, false] rfl rfl (any_of HT_.out (by kernel_rfl)) (fun _ _ _ h => h) (Or.inl ⟨by rfl, ?_⟩) ?_ ?_
    rotate_left
    ·intro w'
     go_simp
     with_reducible rfl
    rotate_left
    ·simp only [Act.put, sAa, sBb, sCc, i64_w, i32_w]
     rfl
    refine take_ (i := 2) (N := some 31) (v := ?_) (a' := ?_) #[true, true, true, false, true, false, false, true, false, false, false] rfl rfl (take_ofW HT_.out HW_.out (by kernel_rfl)) (fun _ _ _ h => h) (Or.inl ⟨by rfl, ?_⟩) hHeld ?_ ?_
    rotate_left
    ·rintro w' ⟨s0, s1, s2, s3, s4, s5, s6, s7, s8, s9, s10, s11, s12, s13⟩
     go_simp
     with_reducible rfl
    rotate_left
    ·simp only [Act.put, sAa, sBb, sCc, i64_w, i32_w]
     rfl
    refine take_ (i := 5) (N := some 34) (v := ?_) (a' := ?_) #[true, true, true, false, true, true, false, true, false, false, false] rfl rfl (take_ofW HT_.out HW_.out (by kernel_rfl)) (fun _ _ _ h => h) (Or.inl ⟨by rfl, ?_⟩) hHeld ?_ ?_
    rotate_left
    ·rintro w' ⟨s0, s1, s2, s3, s4, s5, s6, s7, s8, s9, s10, s11, s12, s13⟩
     go_simp
     with_reducible rfl
    rotate_left
    ·simp only [Act.put, sAa, sBb, sCc, i64_w, i32_w]
     rfl
    refine take_ (i := 8) (N := some 37) (v := ?_) (a' := ?_) #[true, true, true, false, true, true, false, true, true, false, false] rfl rfl (take_ofW HT_.out HW_.out (by kernel_rfl)) (fun _ _ _ h => h) (Or.inl ⟨by rfl, ?_⟩) hHeld ?_ ?_
    rotate_left
    ·rintro w' ⟨s0, s1, s2, s3, s4, s5, s6, s7, s8, s9, s10, s11, s12, s13⟩
     go_simp
     with_reducible rfl
    rotate_left
    ·simp only [Act.put, sAa, sBb, sCc, i64_w, i32_w]
     rfl
    refine one_ (i := 3) (N := some 32) #[true, true, true, true, true, true, false, true, true, false, false] rfl rfl (one_of HT_.out (by kernel_rfl)) (by decide) (fun K hK => ?_)
    refine goes_ Tryd.func25 (by kernel_rfl) rfl #[.slice Ao40 t263.length co40, .int .i64 a0_7, .int .i64 6] (by rfl) rfl rfl (by (try simp only [List.map_toArray, List.map_cons, List.map_nil]); first | done | rfl | (simp only [List.length_drop, List.length_take]; rfl)) ?_
    with_reducible refine (drumlineref1_put.calls k (fun k_ => some k_ = (.slice Ao40 t263.length co40 : Value).ownBlock) (.slice Ao40 t263.length co40) t263 a0_7 6 t272 w _ ?side1 ?side2 A25.out).mono ?_
    (case side1 => repeat (first | (with_reducible first | exact HB.out | apply below_alloc | apply pw_below_drewN | apply below_drew1 | refine below_set ?_ GE255.out) | exact HB.out))
    (case side2 => exact Kd.R_tight rfl HO265.out)
    rintro e w41 ⟨v273, rfl, ho0, hb, hkp⟩
    refine ⟨_, rfl, ?_⟩
    have n0_ := Aside0.mk (blk_kept (by (with_reducible repeat (first | refine blk_drewN ?_ _ | refine blk_drew ?_ | refine blk_alloc ?_ _)); exact BK255.out) hkp (fun hs_ => (fun e_ => (Kd.R_ne HO265.out BK255.out (by decide)) e_) hs_))
    have n1_ := Aside0.mk (Kd.R_mono (ok' := fun k_ => True) ho0 (fun k_ hk_ => trivial))
    have n2_ := Aside0.mk (hb)
    clear BK255
    clear HB
    clear HO265
    have BK255 := n0_
    have HO274 := n1_
    have HB := n2_
    clear n0_ n1_ n2_
    (try clear hb)
    (try clear hkp)
    (try clear ho0)
    obtain ⟨Ao42, co42, eo42⟩ := Kd.R_slice HO274.out
    (first | subst eo42 | (injection eo42 with f1_ f2_ f3_; have f4_ := f1_.symm; have f5_ := f3_.symm; clear f1_ f2_ f3_; subst f4_; subst f5_))
    refine hK.out _ _ (cellsK14 BK255.out) (fun hHeld => ?_)
    clear hK K
    refine norm_ (a' := ?_) ?_ ?_
    rotate_left
    ·show Act.put _ (some 32) _ = _
     simp only [Act.put, sAa, sBb, sCc, i64_w, i32_w]
     rfl
    refine one_ (i := 6) (N := some 35) #[true, true, true, true, true, true, true, true, true, false, false] rfl rfl (one_of HT_.out (by kernel_rfl)) (by decide) (fun K hK => ?_)
    refine goes_ Tryd.func25 (by kernel_rfl) rfl #[.slice Ao42 t272.length co42, .int .i64 a0_4, .int .i64 2] (by rfl) rfl rfl (by (try simp only [List.map_toArray, List.map_cons, List.map_nil]); first | done | rfl | (simp only [List.length_drop, List.length_take]; rfl)) ?_
    with_reducible refine (drumlineref1_put.calls k (fun k_ => some k_ = (.slice Ao42 t272.length co42 : Value).ownBlock) (.slice Ao42 t272.length co42) t272 a0_4 2 t275 w _ ?side1 ?side2 A26.out).mono ?_
    (case side1 => repeat (first | (with_reducible first | exact HB.out | apply below_alloc | apply pw_below_drewN | apply below_drew1 | refine below_set ?_ GE255.out) | exact HB.out))
    (case side2 => exact Kd.R_tight rfl HO274.out)
    rintro e w43 ⟨v276, rfl, ho0, hb, hkp⟩
    refine ⟨_, rfl, ?_⟩
    have n0_ := Aside0.mk (blk_kept (by (with_reducible repeat (first | refine blk_drewN ?_ _ | refine blk_drew ?_ | refine blk_alloc ?_ _)); exact BK255.out) hkp (fun hs_ => (fun e_ => (Kd.R_ne HO274.out BK255.out (by decide)) e_) hs_))
    have n1_ := Aside0.mk (Kd.R_mono (ok' := fun k_ => True) ho0 (fun k_ hk_ => trivial))
    have n2_ := Aside0.mk (hb)
    clear BK255
    clear HB
    clear HO274
    have BK255 := n0_
    have HO277 := n1_
    have HB := n2_
    clear n0_ n1_ n2_
    (try clear hb)
    (try clear hkp)
    (try clear ho0)
    obtain ⟨Ao44, co44, eo44⟩ := Kd.R_slice HO277.out
    (first | subst eo44 | (injection eo44 with f1_ f2_ f3_; have f4_ := f1_.symm; have f5_ := f3_.symm; clear f1_ f2_ f3_; subst f4_; subst f5_))
    refine hK.out _ _ (cellsK14 BK255.out) (fun hHeld => ?_)
    clear hK K
    refine norm_ (a' := ?_) ?_ ?_
    rotate_left
    ·show Act.put _ (some 35) _ = _
     simp only [Act.put, sAa, sBb, sCc, i64_w, i32_w]
     rfl
    refine one_ (i := 9) (N := some 38) #[true, true, true, true, true, true, true, true, true, true, false] rfl rfl (one_of HT_.out (by kernel_rfl)) (by decide) (fun K hK => ?_)
    refine goes_ Tryd.func26 (by kernel_rfl) rfl #[.slice Ao44 t275.length co44, .slice A0_9 l0_9.length c0_9] (by rfl) rfl rfl (by (try simp only [List.map_toArray, List.map_cons, List.map_nil]); first | done | rfl | (simp only [List.length_drop, List.length_take]; rfl)) ?_
    with_reducible refine (drumlineref1_putAges.calls k (fun k_ => some k_ = (.slice Ao44 t275.length co44 : Value).ownBlock) (.slice Ao44 t275.length co44) t275 _ _ l0_9 t278 w _ ?side1 ?side2 ?side3 ?side4 A27.out).mono ?_
    (case side1 => repeat (first | (with_reducible first | exact HB.out | apply below_alloc | apply pw_below_drewN | apply below_drew1 | refine below_set ?_ GE255.out) | exact HB.out))
    (case side2 => exact Kd.R_tight rfl HO277.out)
    (case side3 => exact Kd.C_kept_came (Kd.heap_int .i64) HR0_9.out (by repeat (first | (with_reducible first | exact HB.out | apply below_alloc | apply pw_below_drewN | apply below_drew1 | refine below_set ?_ GE255.out) | exact HB.out)) (fun k_ hs_ => (fun e_ => Kd.R_base HO277.out k_ e_.symm) hs_))
    (case side4 => exact HC0_9.out)
    rintro e w45 ⟨v279, rfl, ho0, hb, hkp⟩
    refine ⟨_, rfl, ?_⟩
    have n0_ := Aside0.mk (blk_kept (by (with_reducible repeat (first | refine blk_drewN ?_ _ | refine blk_drew ?_ | refine blk_alloc ?_ _)); exact BK255.out) hkp (fun hs_ => (fun e_ => (Kd.R_ne HO277.out BK255.out (by decide)) e_) hs_))
    have n1_ := Aside0.mk (Kd.R_mono (ok' := fun k_ => True) ho0 (fun k_ hk_ => trivial))
    have n2_ := Aside0.mk (hb)
    clear BK255
    clear HB
    clear HO277
    have BK255 := n0_
    have HO280 := n1_
    have HB := n2_
    clear n0_ n1_ n2_
    (try clear hb)
    (try clear hkp)
    (try clear ho0)
    refine hK.out _ _ (cellsK14 BK255.out) (fun hHeld => ?_)
    clear hK K
    refine norm_ (a' := ?_) ?_ ?_
    rotate_left
    ·show Act.put _ (some 38) _ = _
     simp only [Act.put, sAa, sBb, sCc, i64_w, i32_w]
     rfl
    refine pure_ (i := 10) (N := some 4) (v := ?_) (a' := ?_) #[true, true, true, true, true, true, true, true, true, true, true] rfl rfl (any_of HT_.out (by kernel_rfl)) (fun _ _ _ h => h) (Or.inl ⟨by rfl, ?_⟩) ?_ ?_
    rotate_left
    ·intro w'
     go_simp
     with_reducible rfl
    rotate_left
    ·simp only [Act.put, sAa, sBb, sCc, i64_w, i32_w]
     rfl
    refine done_ (done_of HT_.out (by kernel_rfl)) ?_
    obtain ⟨Ao46, co46, eo46⟩ := Kd.R_slice HO280.out
    subst eo46
    try go_wp2_with (first | ((with_reducible refine gate_callee (f := 18) rfl ?_); refine goesL_ (some 94) rfl rfl Tryd.func18 (by kernel_rfl) rfl #[.slice Ao46 t278.length co46] rfl (by (try simp only [List.map_toArray, List.map_cons, List.map_nil]); first | done | rfl | (simp only [List.length_drop, List.length_take]; rfl)) ?_; (with_reducible refine (drumlineref1_Seal.calls k _ _ t278 t281 _ ?side1 ?side2 A28.out).mono ?_); (case side1 => repeat (first | exact (Kd.R_reads' HO280.out).2.2 | (with_reducible refine Kd.C_alloc ?_ _) | (with_reducible refine Kd.C_drewN ?_ _) | (with_reducible refine Kd.C_drew ?_))); (case side2 => exact (Kd.R_reads' HO280.out).2.1); rintro e w47 ⟨v282, rfl, ho0, hb⟩; refine ⟨_, rfl, ?_⟩; have n0_ := Aside0.mk (Kd.R_elder' (by (with_reducible repeat (first | apply Kd.R_alloc | apply Kd.R_drewN | apply Kd.R_drew)); exact HO280.out) (Kd.R_base ho0) hb); have n1_ := Aside0.mk (Kd.R_lower (Kd.R_new' ho0 (Kd.R_lt (by (with_reducible repeat (first | apply Kd.R_alloc | apply Kd.R_drewN | apply Kd.R_drew)); exact HO280.out))) (below_size (by repeat (first | (with_reducible first | exact HB.out | apply below_alloc | apply pw_below_drewN | apply below_drew1 | refine below_set ?_ GE255.out) | exact HB.out)))); have n2_ := Aside0.mk (blk_below (g := gb255) (by (with_reducible repeat (first | refine blk_drewN ?_ _ | refine blk_drew ?_ | refine blk_alloc ?_ _)); exact BK255.out) hb); have n3_ := Aside0.mk (below_step (by repeat (first | (with_reducible first | exact HB.out | apply below_alloc | apply pw_below_drewN | apply below_drew1 | refine below_set ?_ GE255.out) | exact HB.out)) hb); clear HO280; clear BK255; clear HB; have HO280 := n0_; have HO283 := n1_; have BK255 := n2_; have HB := n3_; clear n0_ n1_ n2_ n3_; (try clear hb); (try clear hb2); (try clear hk); (try clear hi); (try clear ho0)))
    go_ret2
    exact ⟨_, by first | rfl | (simp [errW_none, errW_some] <;> rfl) | (simp [*, errW_none, errW_some] <;> rfl), by (with_reducible repeat (first | apply Kd.R_alloc | apply Kd.R_drewN | apply Kd.R_drew)); exact Kd.R_mono HO283.out (fun _ hk => trivial), by repeat (first | (with_reducible first | exact HB.out | apply below_alloc | apply pw_below_drewN | apply below_drew1 | refine below_set ?_ GE255.out) | exact HB.out)⟩
   ·rw [if_neg c24] at H
    have c24b0 : (a0_0 == 2) = false := beq_eq_false_iff_ne.mpr c24
    have c24b1 : (a0_0 != 2) = true := bne_iff_ne.mpr c24
    by_cases c48 : a0_0 = 3
    ·rw [if_pos c48] at H
     have c48b0 : (a0_0 == 3) = true := beq_iff_eq.mpr c48
     have c48b1 : (a0_0 != 3) = false := bne_eq_false_iff_eq.mpr c48
     clear c48
     replace H := Option.bind_eq_some_iff.mp H
     obtain ⟨t284, A490, H⟩ := H
     replace H : ((drumlineref1_flag.f a0_6).bind fun t287 => ((drumlineref1_put.f k t284 t287 1).bind fun t288 => ((drumlineref1_put.f k t288 a0_7 6).bind fun t291 => ((drumlineref1_Signed.f k a0_8 6).bind fun bt294 => (if t291.length + bt294.1.length < 140737488355328 then ((drumlineref1_Seal.f k (t291 ++ bt294.1)).bind fun t301 => (some (t301, 0))) else (none)))))) = some (r1, r2) := H
     have A49 := Aside0.mk A490
     clear A490
     replace H := Option.bind_eq_some_iff.mp H
     obtain ⟨t287, A500, H⟩ := H
     replace H : ((drumlineref1_put.f k t284 t287 1).bind fun t288 => ((drumlineref1_put.f k t288 a0_7 6).bind fun t291 => ((drumlineref1_Signed.f k a0_8 6).bind fun bt294 => (if t291.length + bt294.1.length < 140737488355328 then ((drumlineref1_Seal.f k (t291 ++ bt294.1)).bind fun t301 => (some (t301, 0))) else (none))))) = some (r1, r2) := H
     have A50 := Aside0.mk A500
     clear A500
     replace H := Option.bind_eq_some_iff.mp H
     obtain ⟨t288, A510, H⟩ := H
     replace H : ((drumlineref1_put.f k t288 a0_7 6).bind fun t291 => ((drumlineref1_Signed.f k a0_8 6).bind fun bt294 => (if t291.length + bt294.1.length < 140737488355328 then ((drumlineref1_Seal.f k (t291 ++ bt294.1)).bind fun t301 => (some (t301, 0))) else (none)))) = some (r1, r2) := H
     have A51 := Aside0.mk A510
     clear A510
     replace H := Option.bind_eq_some_iff.mp H
     obtain ⟨t291, A520, H⟩ := H
     replace H : ((drumlineref1_Signed.f k a0_8 6).bind fun bt294 => (if t291.length + bt294.1.length < 140737488355328 then ((drumlineref1_Seal.f k (t291 ++ bt294.1)).bind fun t301 => (some (t301, 0))) else (none))) = some (r1, r2) := H
     have A52 := Aside0.mk A520
     clear A520
     replace H := Option.bind_eq_some_iff.mp H
     obtain ⟨⟨t294, t295⟩, A530, H⟩ := H
     replace H : (if t291.length + t294.length < 140737488355328 then ((drumlineref1_Seal.f k (t291 ++ t294)).bind fun t301 => (some (t301, 0))) else (none)) = some (r1, r2) := H
     have A53 := Aside0.mk A530
     clear A530
     by_cases c54 : t291.length + t294.length < 140737488355328
     ·rw [if_pos c54] at H
      have LMc54 := Aside0.mk c54
      clear c54
      obtain ⟨y298, hy298⟩ : ∃ y_ : List Int, y_ = (t291 ++ t294) := ⟨_, rfl⟩
      replace H : ((drumlineref1_Seal.f k y298).bind fun t301 => (some (t301, 0))) = some (r1, r2) := by first | (rw [hy298]; with_reducible exact H) | (have H2_ := (Option.bind_some _ _).symm.trans H; rw [hy298]; with_reducible exact H2_) | (have H2_ := (Option.bind_some _ _).symm.trans H; with_reducible exact H2_) | with_reducible exact H | (rw [hy298]; exact H) | exact H
      have Ny298 := Aside0.mk hy298
      clear hy298
      replace H := Option.bind_eq_some_iff.mp H
      obtain ⟨t301, A550, H⟩ := H
      replace H : (some (t301, 0)) = some (r1, r2) := H
      have A55 := Aside0.mk A550
      clear A550
      simp only [Option.some.injEq, Prod.mk.injEq] at H
      obtain ⟨rfl, rfl⟩ := H
      go_enter Tryd.func11, Tryd.ntmps11
      try go_wp2_with (first | ((with_reducible refine gate_dst (N := 1) rfl ?_); refine box_event ?hg (N := 1) ?hd (cs := #[.int .i64 a0_0, .int .i64 a0_1, .int .i64 a0_2, .int .i64 a0_3, .int .i64 a0_4, .int .i64 a0_5, .bool a0_6, .int .i64 a0_7, .int .i64 a0_8, .slice A0_9 l0_9.length c0_9, .int .i64 a0_10, .int .i64 a0_11, .int .i64 a0_12, .slice A0_13 l0_13.length c0_13]) (t := 25) ?hr ?_; (case hd => rfl); (case hg => rfl); (case hr => first | (go_simp; done) | (go_simp; rfl)); intro gb255 hg w56 hbox hb; have n0_ := Aside0.mk (below_step (by repeat (first | (with_reducible first | exact HB.out | apply below_alloc | apply pw_below_drewN | apply below_drew1) | exact HB.out)) hb); have n1_ := Aside0.mk (hbox); have n2_ := Aside0.mk ((by rw [hg]; exact (below_size (by repeat (first | (with_reducible first | exact HB.out | apply below_alloc | apply pw_below_drewN | apply below_drew1) | exact HB.out))) : w.heap.size ≤ gb255)); have n3_ := Aside0.mk ((by rw [hg]; exact (below_size (by repeat (first | (with_reducible first | exact HB.out | apply below_alloc | apply pw_below_drewN | apply below_drew1) | exact HB.out))) : w.heap.size ≤ gb255)); clear HB; have HB := n0_; have BK255 := n1_; have GW255 := n2_; have GE255 := n3_; clear n0_ n1_ n2_ n3_; clear hb hbox hg; obtain ⟨hcz57_0, hcz57_1, hcz57_2, hcz57_3, hcz57_4, hcz57_5, hcz57_6, hcz57_7, hcz57_8, hcz57_9, hcz57_10, hcz57_11, hcz57_12, hcz57_13⟩ := cellsK14 BK255.out; obtain ⟨hfz57_0, hfz57_1, hfz57_2, hfz57_3, hfz57_4, hfz57_5, hfz57_6, hfz57_7, hfz57_8, hfz57_9, hfz57_10, hfz57_11, hfz57_12, hfz57_13⟩ := frozK14 BK255.out) | ((with_reducible refine gate_callee (f := 13) rfl ?_); refine goesL_ (some 8) rfl rfl Tryd.func13 (by kernel_rfl) rfl #[.agg #[.int .i64 a0_0, .int .i64 a0_1, .int .i64 a0_2, .int .i64 a0_3, .int .i64 a0_4, .int .i64 a0_5, .bool a0_6, .int .i64 a0_7, .int .i64 a0_8, .slice A0_9 l0_9.length c0_9, .int .i64 a0_10, .int .i64 a0_11, .int .i64 a0_12, .slice A0_13 l0_13.length c0_13]] rfl (by (try simp only [List.map_toArray, List.map_cons, List.map_nil]); first | done | rfl | (simp only [List.length_drop, List.length_take]; rfl)) ?_; (with_reducible refine (drumlineref1_May.calls k a0_0 a0_1 a0_2 a0_3 a0_4 a0_5 a0_6 a0_7 a0_8 _ _ l0_9 a0_10 a0_11 a0_12 _ _ l0_13 true _ ?side1 ?side2 ?side3 ?side4 A2.out).mono ?_); (case side1 => repeat (first | exact (Kd.C_below HR0_9.out HB.out) | (with_reducible refine Kd.C_alloc ?_ _) | (with_reducible refine Kd.C_drewN ?_ _) | (with_reducible refine Kd.C_drew ?_))); (case side2 => exact HC0_9.out); (case side3 => repeat (first | exact (Kd.C_below HR0_13.out HB.out) | (with_reducible refine Kd.C_alloc ?_ _) | (with_reducible refine Kd.C_drewN ?_ _) | (with_reducible refine Kd.C_drew ?_))); (case side4 => exact HC0_13.out); rintro e w58 ⟨rfl, hb⟩; refine ⟨_, rfl, ?_⟩; have n0_ := Aside0.mk (blk_below (g := gb255) (by (with_reducible repeat (first | refine blk_drewN ?_ _ | refine blk_drew ?_ | refine blk_alloc ?_ _)); exact BK255.out) hb); have n1_ := Aside0.mk (below_step (by repeat (first | (with_reducible first | exact HB.out | apply below_alloc | apply pw_below_drewN | apply below_drew1 | refine below_set ?_ GE255.out) | exact HB.out)) hb); clear BK255; clear HB; have BK255 := n0_; have HB := n1_; clear n0_ n1_; (try clear hb); (try clear hb2); (try clear hk); (try clear hi)))
      have n0_ := Aside0.mk (blk_drew BK255.out)
      have n1_ := Aside0.mk (below_drew1 HB.out)
      clear BK255
      clear HB
      have BK255 := n0_
      have HB := n1_
      clear n0_ n1_
      refine start_ (n := 10) (S := fun w' => w'.cell? ⟨gb255, 0, none⟩ = some (.int .i64 a0_0) ∧ w'.cell? ⟨gb255, 1, none⟩ = some (.int .i64 a0_1) ∧ w'.cell? ⟨gb255, 2, none⟩ = some (.int .i64 a0_2) ∧ w'.cell? ⟨gb255, 3, none⟩ = some (.int .i64 a0_3) ∧ w'.cell? ⟨gb255, 4, none⟩ = some (.int .i64 a0_4) ∧ w'.cell? ⟨gb255, 5, none⟩ = some (.int .i64 a0_5) ∧ w'.cell? ⟨gb255, 6, none⟩ = some (.bool a0_6) ∧ w'.cell? ⟨gb255, 7, none⟩ = some (.int .i64 a0_7) ∧ w'.cell? ⟨gb255, 8, none⟩ = some (.int .i64 a0_8) ∧ w'.cell? ⟨gb255, 9, none⟩ = some (.slice A0_9 l0_9.length c0_9) ∧ w'.cell? ⟨gb255, 10, none⟩ = some (.int .i64 a0_10) ∧ w'.cell? ⟨gb255, 11, none⟩ = some (.int .i64 a0_11) ∧ w'.cell? ⟨gb255, 12, none⟩ = some (.int .i64 a0_12) ∧ w'.cell? ⟨gb255, 13, none⟩ = some (.slice A0_13 l0_13.length c0_13)) (ds := []) #[false, false, false, false, false, false, false, false, false, false] (by kernel_rfl) rfl rfl (cellsK14 BK255.out) (fun hHeld => ?_); refine with_tabW drumlineref1_Encode.tab3 drumlineref1_Encode.bits3 (fun HT_ HW_ => ?_)
      generalize w58.drew = w59 at BK255 HB hHeld ⊢
      refine pure_ (i := 0) (N := some 10) (v := ?_) (a' := ?_) #[true, false, false, false, false, false, false, false, false, false] rfl rfl (any_of HT_.out (by kernel_rfl)) (fun _ _ _ h => h) (Or.inl ⟨by rfl, ?_⟩) ?_ ?_
      rotate_left
      ·intro w'
       go_simp
       with_reducible rfl
      rotate_left
      ·simp only [Act.put, sAa, sBb, sCc, i64_w, i32_w]
       rfl
      refine pure_ (i := 3) (N := some 13) (v := ?_) (a' := ?_) #[true, false, false, true, false, false, false, false, false, false] rfl rfl (any_of HT_.out (by kernel_rfl)) (fun _ _ _ h => h) (Or.inl ⟨by rfl, ?_⟩) ?_ ?_
      rotate_left
      ·intro w'
       go_simp
       with_reducible rfl
      rotate_left
      ·simp only [Act.put, sAa, sBb, sCc, i64_w, i32_w]
       rfl
      refine pure_ (i := 6) (N := some 16) (v := ?_) (a' := ?_) #[true, false, false, true, false, false, true, false, false, false] rfl rfl (any_of HT_.out (by kernel_rfl)) (fun _ _ _ h => h) (Or.inl ⟨by rfl, ?_⟩) ?_ ?_
      rotate_left
      ·intro w'
       go_simp
       with_reducible rfl
      rotate_left
      ·simp only [Act.put, sAa, sBb, sCc, i64_w, i32_w]
       rfl
      refine take_ (i := 1) (N := some 11) (v := ?_) (a' := ?_) #[true, true, false, true, false, false, true, false, false, false] rfl rfl (take_ofW HT_.out HW_.out (by kernel_rfl)) (fun _ _ _ h => h) (Or.inl ⟨by rfl, ?_⟩) hHeld ?_ ?_
      rotate_left
      ·rintro w' ⟨s0, s1, s2, s3, s4, s5, s6, s7, s8, s9, s10, s11, s12, s13⟩
       go_simp
       with_reducible rfl
      rotate_left
      ·simp only [Act.put, sAa, sBb, sCc, i64_w, i32_w]
       rfl
      refine take_ (i := 4) (N := some 14) (v := ?_) (a' := ?_) #[true, true, false, true, true, false, true, false, false, false] rfl rfl (take_ofW HT_.out HW_.out (by kernel_rfl)) (fun _ _ _ h => h) (Or.inl ⟨by rfl, ?_⟩) hHeld ?_ ?_
      rotate_left
      ·rintro w' ⟨s0, s1, s2, s3, s4, s5, s6, s7, s8, s9, s10, s11, s12, s13⟩
       go_simp
       with_reducible rfl
      rotate_left
      ·simp only [Act.put, sAa, sBb, sCc, i64_w, i32_w]
       rfl
      refine take_ (i := 7) (N := some 17) (v := ?_) (a' := ?_) #[true, true, false, true, true, false, true, true, false, false] rfl rfl (take_ofW HT_.out HW_.out (by kernel_rfl)) (fun _ _ _ h => h) (Or.inl ⟨by rfl, ?_⟩) hHeld ?_ ?_
      rotate_left
      ·rintro w' ⟨s0, s1, s2, s3, s4, s5, s6, s7, s8, s9, s10, s11, s12, s13⟩
       go_simp
       with_reducible rfl
      rotate_left
      ·simp only [Act.put, sAa, sBb, sCc, i64_w, i32_w]
       rfl
      refine one_ (i := 2) (N := some 12) #[true, true, true, true, true, false, true, true, false, false] rfl rfl (one_of HT_.out (by kernel_rfl)) (by decide) (fun K hK => ?_)
      refine goes_ Tryd.func25 (by kernel_rfl) rfl #[.slice none 0 0, .int .i64 a0_0, .int .i64 1] (by rfl) rfl rfl (by (try simp only [List.map_toArray, List.map_cons, List.map_nil]); first | done | rfl | (simp only [List.length_drop, List.length_take]; rfl)) ?_
      refine (drumlineref1_put.calls k (fun k_ => some k_ = (.slice none 0 0 : Value).ownBlock) (.slice none 0 0) ([] : List Int) a0_0 1 t257 w _ ?side1 ?side2 A4.out).mono ?_
      (case side1 => repeat (first | (with_reducible first | exact HB.out | apply below_alloc | apply pw_below_drewN | apply below_drew1 | refine below_set ?_ GE255.out) | exact HB.out))
      (case side2 => exact Kd.R_nil _ _ _ _ _)
      rintro e w60 ⟨v258, rfl, ho0, hb, hkp⟩
      refine ⟨_, rfl, ?_⟩
      have n0_ := Aside0.mk (blk_kept (by (with_reducible repeat (first | refine blk_drewN ?_ _ | refine blk_drew ?_ | refine blk_alloc ?_ _)); exact BK255.out) hkp (fun hs_ => (fun e_ => by simp [Value.ownBlock] at e_) hs_))
      have n1_ := Aside0.mk (Kd.R_mono (ok' := fun k_ => True) ho0 (fun k_ hk_ => trivial))
      have n2_ := Aside0.mk (hb)
      clear BK255
      clear HB
      have BK255 := n0_
      have HO259 := n1_
      have HB := n2_
      clear n0_ n1_ n2_
      (try clear hb)
      (try clear hkp)
      (try clear ho0)
      obtain ⟨Ao61, co61, eo61⟩ := Kd.R_slice HO259.out
      (first | subst eo61 | (injection eo61 with f1_ f2_ f3_; have f4_ := f1_.symm; have f5_ := f3_.symm; clear f1_ f2_ f3_; subst f4_; subst f5_))
      refine hK.out _ _ (cellsK14 BK255.out) (fun hHeld => ?_)
      clear hK K
      refine norm_ (a' := ?_) ?_ ?_
      rotate_left
      ·show Act.put _ (some 12) _ = _
       simp only [Act.put, sAa, sBb, sCc, i64_w, i32_w]
       rfl
      refine one_ (i := 5) (N := some 15) #[true, true, true, true, true, true, true, true, false, false] rfl rfl (one_of HT_.out (by kernel_rfl)) (by decide) (fun K hK => ?_)
      refine goes_ Tryd.func25 (by kernel_rfl) rfl #[.slice Ao61 t257.length co61, .int .i64 a0_1, .int .i64 1] (by rfl) rfl rfl (by (try simp only [List.map_toArray, List.map_cons, List.map_nil]); first | done | rfl | (simp only [List.length_drop, List.length_take]; rfl)) ?_
      with_reducible refine (drumlineref1_put.calls k (fun k_ => some k_ = (.slice Ao61 t257.length co61 : Value).ownBlock) (.slice Ao61 t257.length co61) t257 a0_1 1 t260 w _ ?side1 ?side2 A5.out).mono ?_
      (case side1 => repeat (first | (with_reducible first | exact HB.out | apply below_alloc | apply pw_below_drewN | apply below_drew1 | refine below_set ?_ GE255.out) | exact HB.out))
      (case side2 => exact Kd.R_tight rfl HO259.out)
      rintro e w62 ⟨v261, rfl, ho0, hb, hkp⟩
      refine ⟨_, rfl, ?_⟩
      have n0_ := Aside0.mk (blk_kept (by (with_reducible repeat (first | refine blk_drewN ?_ _ | refine blk_drew ?_ | refine blk_alloc ?_ _)); exact BK255.out) hkp (fun hs_ => (fun e_ => (Kd.R_ne HO259.out BK255.out (by decide)) e_) hs_))
      have n1_ := Aside0.mk (Kd.R_mono (ok' := fun k_ => True) ho0 (fun k_ hk_ => trivial))
      have n2_ := Aside0.mk (hb)
      clear BK255
      clear HB
      clear HO259
      have BK255 := n0_
      have HO262 := n1_
      have HB := n2_
      clear n0_ n1_ n2_
      (try clear hb)
      (try clear hkp)
      (try clear ho0)
      obtain ⟨Ao63, co63, eo63⟩ := Kd.R_slice HO262.out
      (first | subst eo63 | (injection eo63 with f1_ f2_ f3_; have f4_ := f1_.symm; have f5_ := f3_.symm; clear f1_ f2_ f3_; subst f4_; subst f5_))
      refine hK.out _ _ (cellsK14 BK255.out) (fun hHeld => ?_)
      clear hK K
      refine norm_ (a' := ?_) ?_ ?_
      rotate_left
      ·show Act.put _ (some 15) _ = _
       simp only [Act.put, sAa, sBb, sCc, i64_w, i32_w]
       rfl
      refine one_ (i := 8) (N := some 18) #[true, true, true, true, true, true, true, true, true, false] rfl rfl (one_of HT_.out (by kernel_rfl)) (by decide) (fun K hK => ?_)
      refine goes_ Tryd.func25 (by kernel_rfl) rfl #[.slice Ao63 t260.length co63, .int .i64 a0_2, .int .i64 1] (by rfl) rfl rfl (by (try simp only [List.map_toArray, List.map_cons, List.map_nil]); first | done | rfl | (simp only [List.length_drop, List.length_take]; rfl)) ?_
      with_reducible refine (drumlineref1_put.calls k (fun k_ => some k_ = (.slice Ao63 t260.length co63 : Value).ownBlock) (.slice Ao63 t260.length co63) t260 a0_2 1 t263 w _ ?side1 ?side2 A6.out).mono ?_
      (case side1 => repeat (first | (with_reducible first | exact HB.out | apply below_alloc | apply pw_below_drewN | apply below_drew1 | refine below_set ?_ GE255.out) | exact HB.out))
      (case side2 => exact Kd.R_tight rfl HO262.out)
      rintro e w64 ⟨v264, rfl, ho0, hb, hkp⟩
      refine ⟨_, rfl, ?_⟩
      have n0_ := Aside0.mk (blk_kept (by (with_reducible repeat (first | refine blk_drewN ?_ _ | refine blk_drew ?_ | refine blk_alloc ?_ _)); exact BK255.out) hkp (fun hs_ => (fun e_ => (Kd.R_ne HO262.out BK255.out (by decide)) e_) hs_))
      have n1_ := Aside0.mk (Kd.R_mono (ok' := fun k_ => True) ho0 (fun k_ hk_ => trivial))
      have n2_ := Aside0.mk (hb)
      clear BK255
      clear HB
      clear HO262
      have BK255 := n0_
      have HO265 := n1_
      have HB := n2_
      clear n0_ n1_ n2_
      (try clear hb)
      (try clear hkp)
      (try clear ho0)
      refine hK.out _ _ (cellsK14 BK255.out) (fun hHeld => ?_)
      clear hK K
      refine norm_ (a' := ?_) ?_ ?_
      rotate_left
      ·show Act.put _ (some 18) _ = _
       simp only [Act.put, sAa, sBb, sCc, i64_w, i32_w]
       rfl
      refine pure_ (i := 9) (N := some 4) (v := ?_) (a' := ?_) #[true, true, true, true, true, true, true, true, true, true] rfl rfl (any_of HT_.out (by kernel_rfl)) (fun _ _ _ h => h) (Or.inl ⟨by rfl, ?_⟩) ?_ ?_
      rotate_left
      ·intro w'
       go_simp
       with_reducible rfl
      rotate_left
      ·simp only [Act.put, sAa, sBb, sCc, i64_w, i32_w]
       rfl
      refine done_ (done_of HT_.out (by kernel_rfl)) ?_
      obtain ⟨hcz65_0, hcz65_1, hcz65_2, hcz65_3, hcz65_4, hcz65_5, hcz65_6, hcz65_7, hcz65_8, hcz65_9, hcz65_10, hcz65_11, hcz65_12, hcz65_13⟩ := cellsK14 BK255.out
      obtain ⟨hfz65_0, hfz65_1, hfz65_2, hfz65_3, hfz65_4, hfz65_5, hfz65_6, hfz65_7, hfz65_8, hfz65_9, hfz65_10, hfz65_11, hfz65_12, hfz65_13⟩ := frozK14 BK255.out
      try go_wp2
      have n0_ := Aside0.mk (Kd.R_drew HO265.out)
      have n1_ := Aside0.mk (blk_drew BK255.out)
      have n2_ := Aside0.mk (below_drew1 HB.out)
      clear HO265
      clear BK255
      clear HB
      have HO265 := n0_
      have BK255 := n1_
      have HB := n2_
      clear n0_ n1_ n2_
      obtain ⟨Ao67, co67, eo67⟩ := Kd.R_slice HO265.out
      (first | subst eo67 | (injection eo67 with f1_ f2_ f3_; have f4_ := f1_.symm; have f5_ := f3_.symm; clear f1_ f2_ f3_; subst f4_; subst f5_))
      refine start_ (n := 12) (S := fun w' => w'.cell? ⟨gb255, 0, none⟩ = some (.int .i64 a0_0) ∧ w'.cell? ⟨gb255, 1, none⟩ = some (.int .i64 a0_1) ∧ w'.cell? ⟨gb255, 2, none⟩ = some (.int .i64 a0_2) ∧ w'.cell? ⟨gb255, 3, none⟩ = some (.int .i64 a0_3) ∧ w'.cell? ⟨gb255, 4, none⟩ = some (.int .i64 a0_4) ∧ w'.cell? ⟨gb255, 5, none⟩ = some (.int .i64 a0_5) ∧ w'.cell? ⟨gb255, 6, none⟩ = some (.bool a0_6) ∧ w'.cell? ⟨gb255, 7, none⟩ = some (.int .i64 a0_7) ∧ w'.cell? ⟨gb255, 8, none⟩ = some (.int .i64 a0_8) ∧ w'.cell? ⟨gb255, 9, none⟩ = some (.slice A0_9 l0_9.length c0_9) ∧ w'.cell? ⟨gb255, 10, none⟩ = some (.int .i64 a0_10) ∧ w'.cell? ⟨gb255, 11, none⟩ = some (.int .i64 a0_11) ∧ w'.cell? ⟨gb255, 12, none⟩ = some (.int .i64 a0_12) ∧ w'.cell? ⟨gb255, 13, none⟩ = some (.slice A0_13 l0_13.length c0_13)) (ds := []) #[false, false, false, false, false, false, false, false, false, false, false, false] (by kernel_rfl) rfl rfl (cellsK14 BK255.out) (fun hHeld => ?_); refine with_tabW drumlineref1_Encode.tab10 drumlineref1_Encode.bits10 (fun HT_ HW_ => ?_)
      generalize w64.drew = w66 at HO265 BK255 HB hHeld ⊢
      refine pure_ (i := 0) (N := some 41) (v := ?_) (a' := ?_) #[true, false, false, false, false, false, false, false, false, false, false, false] rfl rfl (any_of HT_.out (by kernel_rfl)) (fun _ _ _ h => h) (Or.inl ⟨by rfl, ?_⟩) ?_ ?_
      rotate_left
      ·intro w'
       go_simp
       with_reducible rfl
      rotate_left
      ·simp only [Act.put, sAa, sBb, sCc, i64_w, i32_w]
       rfl
      refine pure_ (i := 1) (N := some 42) (v := ?_) (a' := ?_) #[true, true, false, false, false, false, false, false, false, false, false, false] rfl rfl (any_of HT_.out (by kernel_rfl)) (fun _ _ _ h => h) (Or.inl ⟨by rfl, ?_⟩) ?_ ?_
      rotate_left
      ·intro w'
       go_simp
       with_reducible rfl
      rotate_left
      ·simp only [Act.put, sAa, sBb, sCc, i64_w, i32_w]
       rfl
      refine pure_ (i := 4) (N := some 45) (v := ?_) (a' := ?_) #[true, true, false, false, true, false, false, false, false, false, false, false] rfl rfl (any_of HT_.out (by kernel_rfl)) (fun _ _ _ h => h) (Or.inl ⟨by rfl, ?_⟩) ?_ ?_
      rotate_left
      ·intro w'
       go_simp
       with_reducible rfl
      rotate_left
      ·simp only [Act.put, sAa, sBb, sCc, i64_w, i32_w]
       rfl
      refine pure_ (i := 8) (N := some 49) (v := ?_) (a' := ?_) #[true, true, false, false, true, false, false, false, true, false, false, false] rfl rfl (any_of HT_.out (by kernel_rfl)) (fun _ _ _ h => h) (Or.inl ⟨by rfl, ?_⟩) ?_ ?_
      rotate_left
      ·intro w'
       go_simp
       with_reducible rfl
      rotate_left
      ·simp only [Act.put, sAa, sBb, sCc, i64_w, i32_w]
       rfl
      refine take_ (i := 2) (N := some 43) (v := ?_) (a' := ?_) #[true, true, true, false, true, false, false, false, true, false, false, false] rfl rfl (take_ofW HT_.out HW_.out (by kernel_rfl)) (fun _ _ _ h => h) (Or.inl ⟨by rfl, ?_⟩) hHeld ?_ ?_
      rotate_left
      ·rintro w' ⟨s0, s1, s2, s3, s4, s5, s6, s7, s8, s9, s10, s11, s12, s13⟩
       go_simp
       with_reducible rfl
      rotate_left
      ·simp only [Act.put, sAa, sBb, sCc, i64_w, i32_w]
       rfl
      refine take_ (i := 5) (N := some 46) (v := ?_) (a' := ?_) #[true, true, true, false, true, true, false, false, true, false, false, false] rfl rfl (take_ofW HT_.out HW_.out (by kernel_rfl)) (fun _ _ _ h => h) (Or.inl ⟨by rfl, ?_⟩) hHeld ?_ ?_
      rotate_left
      ·rintro w' ⟨s0, s1, s2, s3, s4, s5, s6, s7, s8, s9, s10, s11, s12, s13⟩
       go_simp
       with_reducible rfl
      rotate_left
      ·simp only [Act.put, sAa, sBb, sCc, i64_w, i32_w]
       rfl
      refine take_ (i := 9) (N := some 50) (v := ?_) (a' := ?_) #[true, true, true, false, true, true, false, false, true, true, false, false] rfl rfl (take_ofW HT_.out HW_.out (by kernel_rfl)) (fun _ _ _ h => h) (Or.inl ⟨by rfl, ?_⟩) hHeld ?_ ?_
      rotate_left
      ·rintro w' ⟨s0, s1, s2, s3, s4, s5, s6, s7, s8, s9, s10, s11, s12, s13⟩
       go_simp
       with_reducible rfl
      rotate_left
      ·simp only [Act.put, sAa, sBb, sCc, i64_w, i32_w]
       rfl
      refine one_ (i := 3) (N := some 44) #[true, true, true, true, true, true, false, false, true, true, false, false] rfl rfl (one_of HT_.out (by kernel_rfl)) (by decide) (fun K hK => ?_)
      refine goes_ Tryd.func25 (by kernel_rfl) rfl #[.slice Ao67 t263.length co67, .int .i64 a0_5, .int .i64 1] (by rfl) rfl rfl (by (try simp only [List.map_toArray, List.map_cons, List.map_nil]); first | done | rfl | (simp only [List.length_drop, List.length_take]; rfl)) ?_
      with_reducible refine (drumlineref1_put.calls k (fun k_ => some k_ = (.slice Ao67 t263.length co67 : Value).ownBlock) (.slice Ao67 t263.length co67) t263 a0_5 1 t284 w _ ?side1 ?side2 A49.out).mono ?_
      (case side1 => repeat (first | (with_reducible first | exact HB.out | apply below_alloc | apply pw_below_drewN | apply below_drew1 | refine below_set ?_ GE255.out) | exact HB.out))
      (case side2 => exact Kd.R_tight rfl HO265.out)
      rintro e w68 ⟨v285, rfl, ho0, hb, hkp⟩
      refine ⟨_, rfl, ?_⟩
      have n0_ := Aside0.mk (blk_kept (by (with_reducible repeat (first | refine blk_drewN ?_ _ | refine blk_drew ?_ | refine blk_alloc ?_ _)); exact BK255.out) hkp (fun hs_ => (fun e_ => (Kd.R_ne HO265.out BK255.out (by decide)) e_) hs_))
      have n1_ := Aside0.mk (Kd.R_mono (ok' := fun k_ => True) ho0 (fun k_ hk_ => trivial))
      have n2_ := Aside0.mk (hb)
      clear BK255
      clear HB
      clear HO265
      have BK255 := n0_
      have HO286 := n1_
      have HB := n2_
      clear n0_ n1_ n2_
      (try clear hb)
      (try clear hkp)
      (try clear ho0)
      refine hK.out _ _ (cellsK14 BK255.out) (fun hHeld => ?_)
      clear hK K
      refine norm_ (a' := ?_) ?_ ?_
      rotate_left
      ·show Act.put _ (some 44) _ = _
       simp only [Act.put, sAa, sBb, sCc, i64_w, i32_w]
       rfl
      refine one_ (i := 6) (N := some 47) #[true, true, true, true, true, true, true, false, true, true, false, false] rfl rfl (one_of HT_.out (by kernel_rfl)) (by decide) (fun K hK => ?_)
      refine goes_ Tryd.func27 (by kernel_rfl) rfl #[.bool a0_6] (by rfl) rfl rfl (by (try simp only [List.map_toArray, List.map_cons, List.map_nil]); first | done | rfl | (simp only [List.length_drop, List.length_take]; rfl)) ?_
      with_reducible refine (drumlineref1_flag.calls a0_6 t287 _ A50.out).mono ?_
      rintro e w' ⟨rfl, ⟨nd, rfl⟩⟩
      refine ⟨_, rfl, ?_⟩
      obtain ⟨Ao69, co69, eo69⟩ := Kd.R_slice HO286.out
      (first | subst eo69 | (injection eo69 with f1_ f2_ f3_; have f4_ := f1_.symm; have f5_ := f3_.symm; clear f1_ f2_ f3_; subst f4_; subst f5_))
      refine hK.out _ _ (cellsK14 BK255.out) (fun hHeld => ?_)
      clear hK K
      refine norm_ (a' := ?_) ?_ ?_
      rotate_left
      ·show Act.put _ (some 47) _ = _
       simp only [Act.put, sAa, sBb, sCc, i64_w, i32_w]
       rfl
      refine one_ (i := 7) (N := some 48) #[true, true, true, true, true, true, true, true, true, true, false, false] rfl rfl (one_of HT_.out (by kernel_rfl)) (by decide) (fun K hK => ?_)
      refine goes_ Tryd.func25 (by kernel_rfl) rfl #[.slice Ao69 t284.length co69, .int .i64 t287, .int .i64 1] (by rfl) rfl rfl (by (try simp only [List.map_toArray, List.map_cons, List.map_nil]); first | done | rfl | (simp only [List.length_drop, List.length_take]; rfl)) ?_
      with_reducible refine (drumlineref1_put.calls k (fun k_ => some k_ = (.slice Ao69 t284.length co69 : Value).ownBlock) (.slice Ao69 t284.length co69) t284 t287 1 t288 w _ ?side1 ?side2 A51.out).mono ?_
      (case side1 => repeat (first | (with_reducible first | exact HB.out | apply below_alloc | apply pw_below_drewN | apply below_drew1 | refine below_set ?_ GE255.out) | exact HB.out))
      (case side2 => exact Kd.R_tight rfl HO286.out)
      rintro e w70 ⟨v289, rfl, ho0, hb, hkp⟩
      refine ⟨_, rfl, ?_⟩
      have n0_ := Aside0.mk (blk_kept (by (with_reducible repeat (first | refine blk_drewN ?_ _ | refine blk_drew ?_ | refine blk_alloc ?_ _)); exact BK255.out) hkp (fun hs_ => (fun e_ => (Kd.R_ne HO286.out BK255.out (by decide)) e_) hs_))
      have n1_ := Aside0.mk (Kd.R_mono (ok' := fun k_ => True) ho0 (fun k_ hk_ => trivial))
      have n2_ := Aside0.mk (hb)
      clear BK255
      clear HB
      clear HO286
      have BK255 := n0_
      have HO290 := n1_
      have HB := n2_
      clear n0_ n1_ n2_
      (try clear hb)
      (try clear hkp)
      (try clear ho0)
      obtain ⟨Ao71, co71, eo71⟩ := Kd.R_slice HO290.out
      (first | subst eo71 | (injection eo71 with f1_ f2_ f3_; have f4_ := f1_.symm; have f5_ := f3_.symm; clear f1_ f2_ f3_; subst f4_; subst f5_))
      refine hK.out _ _ (cellsK14 BK255.out) (fun hHeld => ?_)
      clear hK K
      refine norm_ (a' := ?_) ?_ ?_
      rotate_left
      ·show Act.put _ (some 48) _ = _
       simp only [Act.put, sAa, sBb, sCc, i64_w, i32_w]
       rfl
      refine one_ (i := 10) (N := some 51) #[true, true, true, true, true, true, true, true, true, true, true, false] rfl rfl (one_of HT_.out (by kernel_rfl)) (by decide) (fun K hK => ?_)
      refine goes_ Tryd.func25 (by kernel_rfl) rfl #[.slice Ao71 t288.length co71, .int .i64 a0_7, .int .i64 6] (by rfl) rfl rfl (by (try simp only [List.map_toArray, List.map_cons, List.map_nil]); first | done | rfl | (simp only [List.length_drop, List.length_take]; rfl)) ?_
      with_reducible refine (drumlineref1_put.calls k (fun k_ => some k_ = (.slice Ao71 t288.length co71 : Value).ownBlock) (.slice Ao71 t288.length co71) t288 a0_7 6 t291 w _ ?side1 ?side2 A52.out).mono ?_
      (case side1 => repeat (first | (with_reducible first | exact HB.out | apply below_alloc | apply pw_below_drewN | apply below_drew1 | refine below_set ?_ GE255.out) | exact HB.out))
      (case side2 => exact Kd.R_tight rfl HO290.out)
      rintro e w72 ⟨v292, rfl, ho0, hb, hkp⟩
      refine ⟨_, rfl, ?_⟩
      have n0_ := Aside0.mk (blk_kept (by (with_reducible repeat (first | refine blk_drewN ?_ _ | refine blk_drew ?_ | refine blk_alloc ?_ _)); exact BK255.out) hkp (fun hs_ => (fun e_ => (Kd.R_ne HO290.out BK255.out (by decide)) e_) hs_))
      have n1_ := Aside0.mk (Kd.R_mono (ok' := fun k_ => True) ho0 (fun k_ hk_ => trivial))
      have n2_ := Aside0.mk (hb)
      clear BK255
      clear HB
      clear HO290
      have BK255 := n0_
      have HO293 := n1_
      have HB := n2_
      clear n0_ n1_ n2_
      (try clear hb)
      (try clear hkp)
      (try clear ho0)
      refine hK.out _ _ (cellsK14 BK255.out) (fun hHeld => ?_)
      clear hK K
      refine norm_ (a' := ?_) ?_ ?_
      rotate_left
      ·show Act.put _ (some 51) _ = _
       simp only [Act.put, sAa, sBb, sCc, i64_w, i32_w]
       rfl
      refine pure_ (i := 11) (N := some 4) (v := ?_) (a' := ?_) #[true, true, true, true, true, true, true, true, true, true, true, true] rfl rfl (any_of HT_.out (by kernel_rfl)) (fun _ _ _ h => h) (Or.inl ⟨by rfl, ?_⟩) ?_ ?_
      rotate_left
      ·intro w'
       go_simp
       with_reducible rfl
      rotate_left
      ·simp only [Act.put, sAa, sBb, sCc, i64_w, i32_w]
       rfl
      refine done_ (done_of HT_.out (by kernel_rfl)) ?_
      obtain ⟨hcz73_0, hcz73_1, hcz73_2, hcz73_3, hcz73_4, hcz73_5, hcz73_6, hcz73_7, hcz73_8, hcz73_9, hcz73_10, hcz73_11, hcz73_12, hcz73_13⟩ := cellsK14 BK255.out
      obtain ⟨hfz73_0, hfz73_1, hfz73_2, hfz73_3, hfz73_4, hfz73_5, hfz73_6, hfz73_7, hfz73_8, hfz73_9, hfz73_10, hfz73_11, hfz73_12, hfz73_13⟩ := frozK14 BK255.out
      try go_wp2_with (first | ((with_reducible refine gate_callee (f := 28) rfl ?_); refine goesL_ (some 55) rfl rfl Tryd.func28 (by kernel_rfl) rfl #[.int .i64 a0_8, .int .i64 6] rfl (by (try simp only [List.map_toArray, List.map_cons, List.map_nil]); first | done | rfl | (simp only [List.length_drop, List.length_take]; rfl)) ?_; (with_reducible refine (drumlineref1_Signed.calls k a0_8 6 t294 t295 _ A53.out).mono ?_); rintro e w74 ⟨v296, rfl, ho0, hb⟩; refine ⟨_, rfl, ?_⟩; have n0_ := Aside0.mk (Kd.R_elder' (by (with_reducible repeat (first | apply Kd.R_alloc | apply Kd.R_drewN | apply Kd.R_drew)); exact HO293.out) (Kd.R_base ho0) hb); have n1_ := Aside0.mk (Kd.R_lower (Kd.R_new' ho0 (Kd.R_lt (by (with_reducible repeat (first | apply Kd.R_alloc | apply Kd.R_drewN | apply Kd.R_drew)); exact HO293.out))) (below_size (by repeat (first | (with_reducible first | exact HB.out | apply below_alloc | apply pw_below_drewN | apply below_drew1 | refine below_set ?_ GE255.out) | exact HB.out)))); have n2_ := Aside0.mk (blk_below (g := gb255) (by (with_reducible repeat (first | refine blk_drewN ?_ _ | refine blk_drew ?_ | refine blk_alloc ?_ _)); exact BK255.out) hb); have n3_ := Aside0.mk (below_step (by repeat (first | (with_reducible first | exact HB.out | apply below_alloc | apply pw_below_drewN | apply below_drew1 | refine below_set ?_ GE255.out) | exact HB.out)) hb); clear HO293; clear BK255; clear HB; have HO293 := n0_; have HO297 := n1_; have BK255 := n2_; have HB := n3_; clear n0_ n1_ n2_ n3_; (try clear hb); (try clear hb2); (try clear hk); (try clear hi); (try clear ho0); obtain ⟨Ao76, co76, eo76⟩ := Kd.R_slice HO297.out; subst eo76) | ((with_reducible refine gate_builtin (b := .append) (xs := #[.tmp 58, .tmp 59]) rfl ?_); at_builtin; refine Kd.R_append_rows (Kd.int .u8) (w0 := w) w.heap.size rfl (.tmp 58) (.tmp 59) 23 5 (.int .u8 0) 1 rfl Tryd.underlying23 info5 rfl (by decide) (by omega) v292 t291 t294 _ _ _ (fun k_ => some k_ ≠ (.slice Ao76 t294.length co76 : Value).ownBlock) (fun _ => False) rfl rfl ?aO ?aR (fun _ _ h => h) (fun _ h => h.elim) ?aF ?aB ?aS ?aL ?_; (case aR => repeat (first | exact (Kd.R_reads' HO297.out).2.2 | (with_reducible refine Kd.C_alloc ?_ _) | (with_reducible refine Kd.C_drewN ?_ _) | (with_reducible refine Kd.C_drew ?_))); (case aB => exact (by repeat (first | (with_reducible first | exact HB.out | apply below_alloc | apply pw_below_drewN | apply below_drew1 | refine below_set ?_ GE255.out) | exact HB.out))); (case aF => exact (fun k_ hk => Kd.fresh' (Kd.R_lt (by (with_reducible repeat (first | apply Kd.R_alloc | apply Kd.R_drewN | apply Kd.R_drew)); exact HO297.out)) k_ hk)); (case aO => exact (by (with_reducible repeat (first | apply Kd.R_alloc | apply Kd.R_drewN | apply Kd.R_drew)); exact Kd.R_mono HO293.out (fun _ hk => hk.2))); (case aS => exact (below_size (by repeat (first | (with_reducible first | exact HB.out | apply below_alloc | apply pw_below_drewN | apply below_drew1 | refine below_set ?_ GE255.out) | exact HB.out)))); (case aL => have := LMc54.out; omega); intro v299 w75 ho hb hg hat; rw [← Ny298.out] at ho; have n0_ := Aside0.mk (blk_grown (g := gb255) (by (with_reducible repeat (first | refine blk_drewN ?_ _ | refine blk_drew ?_ | refine blk_alloc ?_ _)); exact BK255.out) hg (Kd.R_ne HO293.out BK255.out (by decide))); have n1_ := Aside0.mk (Kd.R_after (ok := (fun _ => True)) (by (with_reducible repeat (first | apply Kd.R_alloc | apply Kd.R_drewN | apply Kd.R_drew)); exact HO297.out) hg hat); have n2_ := Aside0.mk (hb); have n3_ := Aside0.mk (ho); clear BK255; clear HO297; clear HB; clear HO293; have BK255 := n0_; have HO297 := n1_; have HB := n2_; have HO300 := n3_; clear n0_ n1_ n2_ n3_; clear ho hb hg hat; obtain ⟨Ao77, co77, eo77⟩ := Kd.R_slice HO300.out; subst eo77) | ((with_reducible refine gate_callee (f := 18) rfl ?_); refine goesL_ (some 94) rfl rfl Tryd.func18 (by kernel_rfl) rfl #[.slice Ao77 y298.length co77] rfl (by (try simp only [List.map_toArray, List.map_cons, List.map_nil]); first | done | rfl | (simp only [List.length_drop, List.length_take]; rfl)) ?_; (with_reducible refine (drumlineref1_Seal.calls k _ _ y298 t301 _ ?side1 ?side2 A55.out).mono ?_); (case side1 => repeat (first | exact (Kd.R_reads' HO300.out).2.2 | (with_reducible refine Kd.C_alloc ?_ _) | (with_reducible refine Kd.C_drewN ?_ _) | (with_reducible refine Kd.C_drew ?_))); (case side2 => exact (Kd.R_reads' HO300.out).2.1); rintro e w78 ⟨v302, rfl, ho0, hb⟩; refine ⟨_, rfl, ?_⟩; have n0_ := Aside0.mk (Kd.R_elder' (by (with_reducible repeat (first | apply Kd.R_alloc | apply Kd.R_drewN | apply Kd.R_drew)); exact HO297.out) (Kd.R_base ho0) hb); have n1_ := Aside0.mk (Kd.R_elder' (by (with_reducible repeat (first | apply Kd.R_alloc | apply Kd.R_drewN | apply Kd.R_drew)); exact HO300.out) (Kd.R_base ho0) hb); have n2_ := Aside0.mk (Kd.R_lower (Kd.R_new' (Kd.R_new' ho0 (Kd.R_lt (by (with_reducible repeat (first | apply Kd.R_alloc | apply Kd.R_drewN | apply Kd.R_drew)); exact HO297.out))) (Kd.R_lt (by (with_reducible repeat (first | apply Kd.R_alloc | apply Kd.R_drewN | apply Kd.R_drew)); exact HO300.out))) (below_size (by repeat (first | (with_reducible first | exact HB.out | apply below_alloc | apply pw_below_drewN | apply below_drew1 | refine below_set ?_ GE255.out) | exact HB.out)))); have n3_ := Aside0.mk (blk_below (g := gb255) (by (with_reducible repeat (first | refine blk_drewN ?_ _ | refine blk_drew ?_ | refine blk_alloc ?_ _)); exact BK255.out) hb); have n4_ := Aside0.mk (below_step (by repeat (first | (with_reducible first | exact HB.out | apply below_alloc | apply pw_below_drewN | apply below_drew1 | refine below_set ?_ GE255.out) | exact HB.out)) hb); clear HO297; clear HO300; clear BK255; clear HB; have HO297 := n0_; have HO300 := n1_; have HO303 := n2_; have BK255 := n3_; have HB := n4_; clear n0_ n1_ n2_ n3_ n4_; (try clear hb); (try clear hb2); (try clear hk); (try clear hi); (try clear ho0)))
      go_ret2
      exact ⟨_, by first | rfl | (simp [errW_none, errW_some] <;> rfl) | (simp [*, errW_none, errW_some] <;> rfl), by (with_reducible repeat (first | apply Kd.R_alloc | apply Kd.R_drewN | apply Kd.R_drew)); exact Kd.R_mono HO303.out (fun _ hk => trivial), by repeat (first | (with_reducible first | exact HB.out | apply below_alloc | apply pw_below_drewN | apply below_drew1 | refine below_set ?_ GE255.out) | exact HB.out)⟩
     ·rw [if_neg c54] at H
      exact absurd H (by simp)
    ·rw [if_neg c48] at H
     have c48b0 : (a0_0 == 3) = false := beq_eq_false_iff_ne.mpr c48
     have c48b1 : (a0_0 != 3) = true := bne_iff_ne.mpr c48
     by_cases c79 : a0_0 = 4
     ·rw [if_pos c79] at H
      have c79b0 : (a0_0 == 4) = true := beq_iff_eq.mpr c79
      have c79b1 : (a0_0 != 4) = false := bne_eq_false_iff_eq.mpr c79
      clear c79
      replace H := Option.bind_eq_some_iff.mp H
      obtain ⟨t304, A800, H⟩ := H
      replace H : ((drumlineref1_putAges.f k t304 l0_9).bind fun t307 => ((drumlineref1_Seal.f k t307).bind fun t310 => (some (t310, 0)))) = some (r1, r2) := H
      have A80 := Aside0.mk A800
      clear A800
      replace H := Option.bind_eq_some_iff.mp H
      obtain ⟨t307, A810, H⟩ := H
      replace H : ((drumlineref1_Seal.f k t307).bind fun t310 => (some (t310, 0))) = some (r1, r2) := H
      have A81 := Aside0.mk A810
      clear A810
      replace H := Option.bind_eq_some_iff.mp H
      obtain ⟨t310, A820, H⟩ := H
      replace H : (some (t310, 0)) = some (r1, r2) := H
      have A82 := Aside0.mk A820
      clear A820
      simp only [Option.some.injEq, Prod.mk.injEq] at H
      obtain ⟨rfl, rfl⟩ := H
      go_enter Tryd.func11, Tryd.ntmps11
      try go_wp2_with (first | ((with_reducible refine gate_dst (N := 1) rfl ?_); refine box_event ?hg (N := 1) ?hd (cs := #[.int .i64 a0_0, .int .i64 a0_1, .int .i64 a0_2, .int .i64 a0_3, .int .i64 a0_4, .int .i64 a0_5, .bool a0_6, .int .i64 a0_7, .int .i64 a0_8, .slice A0_9 l0_9.length c0_9, .int .i64 a0_10, .int .i64 a0_11, .int .i64 a0_12, .slice A0_13 l0_13.length c0_13]) (t := 25) ?hr ?_; (case hd => rfl); (case hg => rfl); (case hr => first | (go_simp; done) | (go_simp; rfl)); intro gb255 hg w83 hbox hb; have n0_ := Aside0.mk (below_step (by repeat (first | (with_reducible first | exact HB.out | apply below_alloc | apply pw_below_drewN | apply below_drew1) | exact HB.out)) hb); have n1_ := Aside0.mk (hbox); have n2_ := Aside0.mk ((by rw [hg]; exact (below_size (by repeat (first | (with_reducible first | exact HB.out | apply below_alloc | apply pw_below_drewN | apply below_drew1) | exact HB.out))) : w.heap.size ≤ gb255)); have n3_ := Aside0.mk ((by rw [hg]; exact (below_size (by repeat (first | (with_reducible first | exact HB.out | apply below_alloc | apply pw_below_drewN | apply below_drew1) | exact HB.out))) : w.heap.size ≤ gb255)); clear HB; have HB := n0_; have BK255 := n1_; have GW255 := n2_; have GE255 := n3_; clear n0_ n1_ n2_ n3_; clear hb hbox hg; obtain ⟨hcz84_0, hcz84_1, hcz84_2, hcz84_3, hcz84_4, hcz84_5, hcz84_6, hcz84_7, hcz84_8, hcz84_9, hcz84_10, hcz84_11, hcz84_12, hcz84_13⟩ := cellsK14 BK255.out; obtain ⟨hfz84_0, hfz84_1, hfz84_2, hfz84_3, hfz84_4, hfz84_5, hfz84_6, hfz84_7, hfz84_8, hfz84_9, hfz84_10, hfz84_11, hfz84_12, hfz84_13⟩ := frozK14 BK255.out) | ((with_reducible refine gate_callee (f := 13) rfl ?_); refine goesL_ (some 8) rfl rfl Tryd.func13 (by kernel_rfl) rfl #[.agg #[.int .i64 a0_0, .int .i64 a0_1, .int .i64 a0_2, .int .i64 a0_3, .int .i64 a0_4, .int .i64 a0_5, .bool a0_6, .int .i64 a0_7, .int .i64 a0_8, .slice A0_9 l0_9.length c0_9, .int .i64 a0_10, .int .i64 a0_11, .int .i64 a0_12, .slice A0_13 l0_13.length c0_13]] rfl (by (try simp only [List.map_toArray, List.map_cons, List.map_nil]); first | done | rfl | (simp only [List.length_drop, List.length_take]; rfl)) ?_; (with_reducible refine (drumlineref1_May.calls k a0_0 a0_1 a0_2 a0_3 a0_4 a0_5 a0_6 a0_7 a0_8 _ _ l0_9 a0_10 a0_11 a0_12 _ _ l0_13 true _ ?side1 ?side2 ?side3 ?side4 A2.out).mono ?_); (case side1 => repeat (first | exact (Kd.C_below HR0_9.out HB.out) | (with_reducible refine Kd.C_alloc ?_ _) | (with_reducible refine Kd.C_drewN ?_ _) | (with_reducible refine Kd.C_drew ?_))); (case side2 => exact HC0_9.out); (case side3 => repeat (first | exact (Kd.C_below HR0_13.out HB.out) | (with_reducible refine Kd.C_alloc ?_ _) | (with_reducible refine Kd.C_drewN ?_ _) | (with_reducible refine Kd.C_drew ?_))); (case side4 => exact HC0_13.out); rintro e w85 ⟨rfl, hb⟩; refine ⟨_, rfl, ?_⟩; have n0_ := Aside0.mk (blk_below (g := gb255) (by (with_reducible repeat (first | refine blk_drewN ?_ _ | refine blk_drew ?_ | refine blk_alloc ?_ _)); exact BK255.out) hb); have n1_ := Aside0.mk (below_step (by repeat (first | (with_reducible first | exact HB.out | apply below_alloc | apply pw_below_drewN | apply below_drew1 | refine below_set ?_ GE255.out) | exact HB.out)) hb); clear BK255; clear HB; have BK255 := n0_; have HB := n1_; clear n0_ n1_; (try clear hb); (try clear hb2); (try clear hk); (try clear hi)))
      have n0_ := Aside0.mk (blk_drew BK255.out)
      have n1_ := Aside0.mk (below_drew1 HB.out)
      clear BK255
      clear HB
      have BK255 := n0_
      have HB := n1_
      clear n0_ n1_
      refine start_ (n := 10) (S := fun w' => w'.cell? ⟨gb255, 0, none⟩ = some (.int .i64 a0_0) ∧ w'.cell? ⟨gb255, 1, none⟩ = some (.int .i64 a0_1) ∧ w'.cell? ⟨gb255, 2, none⟩ = some (.int .i64 a0_2) ∧ w'.cell? ⟨gb255, 3, none⟩ = some (.int .i64 a0_3) ∧ w'.cell? ⟨gb255, 4, none⟩ = some (.int .i64 a0_4) ∧ w'.cell? ⟨gb255, 5, none⟩ = some (.int .i64 a0_5) ∧ w'.cell? ⟨gb255, 6, none⟩ = some (.bool a0_6) ∧ w'.cell? ⟨gb255, 7, none⟩ = some (.int .i64 a0_7) ∧ w'.cell? ⟨gb255, 8, none⟩ = some (.int .i64 a0_8) ∧ w'.cell? ⟨gb255, 9, none⟩ = some (.slice A0_9 l0_9.length c0_9) ∧ w'.cell? ⟨gb255, 10, none⟩ = some (.int .i64 a0_10) ∧ w'.cell? ⟨gb255, 11, none⟩ = some (.int .i64 a0_11) ∧ w'.cell? ⟨gb255, 12, none⟩ = some (.int .i64 a0_12) ∧ w'.cell? ⟨gb255, 13, none⟩ = some (.slice A0_13 l0_13.length c0_13)) (ds := []) #[false, false, false, false, false, false, false, false, false, false] (by kernel_rfl) rfl rfl (cellsK14 BK255.out) (fun hHeld => ?_); refine with_tabW drumlineref1_Encode.tab3 drumlineref1_Encode.bits3 (fun HT_ HW_ => ?_)
      generalize w85.drew = w86 at BK255 HB hHeld ⊢
      refine pure_ (i := 0) (N := some 10) (v := ?_) (a' := ?_) #[true, false, false, false, false, false, false, false, false, false] rfl rfl (any_of HT_.out (by kernel_rfl)) (fun _ _ _ h => h) (Or.inl ⟨by rfl, ?_⟩) ?_ ?_
      rotate_left
      ·intro w'
       go_simp
       with_reducible rfl
      rotate_left
      ·simp only [Act.put, sAa, sBb, sCc, i64_w, i32_w]
       rfl
      refine pure_ (i := 3) (N := some 13) (v := ?_) (a' := ?_) #[true, false, false, true, false, false, false, false, false, false] rfl rfl (any_of HT_.out (by kernel_rfl)) (fun _ _ _ h => h) (Or.inl ⟨by rfl, ?_⟩) ?_ ?_
      rotate_left
      ·intro w'
       go_simp
       with_reducible rfl
      rotate_left
      ·simp only [Act.put, sAa, sBb, sCc, i64_w, i32_w]
       rfl
      refine pure_ (i := 6) (N := some 16) (v := ?_) (a' := ?_) #[true, false, false, true, false, false, true, false, false, false] rfl rfl (any_of HT_.out (by kernel_rfl)) (fun _ _ _ h => h) (Or.inl ⟨by rfl, ?_⟩) ?_ ?_
      rotate_left
      ·intro w'
       go_simp
       with_reducible rfl
      rotate_left
      ·simp only [Act.put, sAa, sBb, sCc, i64_w, i32_w]
       rfl
      refine take_ (i := 1) (N := some 11) (v := ?_) (a' := ?_) #[true, true, false, true, false, false, true, false, false, false] rfl rfl (take_ofW HT_.out HW_.out (by kernel_rfl)) (fun _ _ _ h => h) (Or.inl ⟨by rfl, ?_⟩) hHeld ?_ ?_
      rotate_left
      ·rintro w' ⟨s0, s1, s2, s3, s4, s5, s6, s7, s8, s9, s10, s11, s12, s13⟩
       go_simp
       with_reducible rfl
      rotate_left
      ·simp only [Act.put, sAa, sBb, sCc, i64_w, i32_w]
       rfl
      refine take_ (i := 4) (N := some 14) (v := ?_) (a' := ?_) #[true, true, false, true, true, false, true, false, false, false] rfl rfl (take_ofW HT_.out HW_.out (by kernel_rfl)) (fun _ _ _ h => h) (Or.inl ⟨by rfl, ?_⟩) hHeld ?_ ?_
      rotate_left
      ·rintro w' ⟨s0, s1, s2, s3, s4, s5, s6, s7, s8, s9, s10, s11, s12, s13⟩
       go_simp
       with_reducible rfl
      rotate_left
      ·simp only [Act.put, sAa, sBb, sCc, i64_w, i32_w]
       rfl
      refine take_ (i := 7) (N := some 17) (v := ?_) (a' := ?_) #[true, true, false, true, true, false, true, true, false, false] rfl rfl (take_ofW HT_.out HW_.out (by kernel_rfl)) (fun _ _ _ h => h) (Or.inl ⟨by rfl, ?_⟩) hHeld ?_ ?_
      rotate_left
      ·rintro w' ⟨s0, s1, s2, s3, s4, s5, s6, s7, s8, s9, s10, s11, s12, s13⟩
       go_simp
       with_reducible rfl
      rotate_left
      ·simp only [Act.put, sAa, sBb, sCc, i64_w, i32_w]
       rfl
      refine one_ (i := 2) (N := some 12) #[true, true, true, true, true, false, true, true, false, false] rfl rfl (one_of HT_.out (by kernel_rfl)) (by decide) (fun K hK => ?_)
      refine goes_ Tryd.func25 (by kernel_rfl) rfl #[.slice none 0 0, .int .i64 a0_0, .int .i64 1] (by rfl) rfl rfl (by (try simp only [List.map_toArray, List.map_cons, List.map_nil]); first | done | rfl | (simp only [List.length_drop, List.length_take]; rfl)) ?_
      refine (drumlineref1_put.calls k (fun k_ => some k_ = (.slice none 0 0 : Value).ownBlock) (.slice none 0 0) ([] : List Int) a0_0 1 t257 w _ ?side1 ?side2 A4.out).mono ?_
      (case side1 => repeat (first | (with_reducible first | exact HB.out | apply below_alloc | apply pw_below_drewN | apply below_drew1 | refine below_set ?_ GE255.out) | exact HB.out))
      (case side2 => exact Kd.R_nil _ _ _ _ _)
      rintro e w87 ⟨v258, rfl, ho0, hb, hkp⟩
      refine ⟨_, rfl, ?_⟩
      have n0_ := Aside0.mk (blk_kept (by (with_reducible repeat (first | refine blk_drewN ?_ _ | refine blk_drew ?_ | refine blk_alloc ?_ _)); exact BK255.out) hkp (fun hs_ => (fun e_ => by simp [Value.ownBlock] at e_) hs_))
      have n1_ := Aside0.mk (Kd.R_mono (ok' := fun k_ => True) ho0 (fun k_ hk_ => trivial))
      have n2_ := Aside0.mk (hb)
      clear BK255
      clear HB
      have BK255 := n0_
      have HO259 := n1_
      have HB := n2_
      clear n0_ n1_ n2_
      (try clear hb)
      (try clear hkp)
      (try clear ho0)
      obtain ⟨Ao88, co88, eo88⟩ := Kd.R_slice HO259.out
      (first | subst eo88 | (injection eo88 with f1_ f2_ f3_; have f4_ := f1_.symm; have f5_ := f3_.symm; clear f1_ f2_ f3_; subst f4_; subst f5_))
      refine hK.out _ _ (cellsK14 BK255.out) (fun hHeld => ?_)
      clear hK K
      refine norm_ (a' := ?_) ?_ ?_
      rotate_left
      ·show Act.put _ (some 12) _ = _
       simp only [Act.put, sAa, sBb, sCc, i64_w, i32_w]
       rfl
      refine one_ (i := 5) (N := some 15) #[true, true, true, true, true, true, true, true, false, false] rfl rfl (one_of HT_.out (by kernel_rfl)) (by decide) (fun K hK => ?_)
      refine goes_ Tryd.func25 (by kernel_rfl) rfl #[.slice Ao88 t257.length co88, .int .i64 a0_1, .int .i64 1] (by rfl) rfl rfl (by (try simp only [List.map_toArray, List.map_cons, List.map_nil]); first | done | rfl | (simp only [List.length_drop, List.length_take]; rfl)) ?_
      with_reducible refine (drumlineref1_put.calls k (fun k_ => some k_ = (.slice Ao88 t257.length co88 : Value).ownBlock) (.slice Ao88 t257.length co88) t257 a0_1 1 t260 w _ ?side1 ?side2 A5.out).mono ?_
      (case side1 => repeat (first | (with_reducible first | exact HB.out | apply below_alloc | apply pw_below_drewN | apply below_drew1 | refine below_set ?_ GE255.out) | exact HB.out))
      (case side2 => exact Kd.R_tight rfl HO259.out)
      rintro e w89 ⟨v261, rfl, ho0, hb, hkp⟩
      refine ⟨_, rfl, ?_⟩
      have n0_ := Aside0.mk (blk_kept (by (with_reducible repeat (first | refine blk_drewN ?_ _ | refine blk_drew ?_ | refine blk_alloc ?_ _)); exact BK255.out) hkp (fun hs_ => (fun e_ => (Kd.R_ne HO259.out BK255.out (by decide)) e_) hs_))
      have n1_ := Aside0.mk (Kd.R_mono (ok' := fun k_ => True) ho0 (fun k_ hk_ => trivial))
      have n2_ := Aside0.mk (hb)
      clear BK255
      clear HB
      clear HO259
      have BK255 := n0_
      have HO262 := n1_
      have HB := n2_
      clear n0_ n1_ n2_
      (try clear hb)
      (try clear hkp)
      (try clear ho0)
      obtain ⟨Ao90, co90, eo90⟩ := Kd.R_slice HO262.out
      (first | subst eo90 | (injection eo90 with f1_ f2_ f3_; have f4_ := f1_.symm; have f5_ := f3_.symm; clear f1_ f2_ f3_; subst f4_; subst f5_))
      refine hK.out _ _ (cellsK14 BK255.out) (fun hHeld => ?_)
      clear hK K
      refine norm_ (a' := ?_) ?_ ?_
      rotate_left
      ·show Act.put _ (some 15) _ = _
       simp only [Act.put, sAa, sBb, sCc, i64_w, i32_w]
       rfl
      refine one_ (i := 8) (N := some 18) #[true, true, true, true, true, true, true, true, true, false] rfl rfl (one_of HT_.out (by kernel_rfl)) (by decide) (fun K hK => ?_)
      refine goes_ Tryd.func25 (by kernel_rfl) rfl #[.slice Ao90 t260.length co90, .int .i64 a0_2, .int .i64 1] (by rfl) rfl rfl (by (try simp only [List.map_toArray, List.map_cons, List.map_nil]); first | done | rfl | (simp only [List.length_drop, List.length_take]; rfl)) ?_
      with_reducible refine (drumlineref1_put.calls k (fun k_ => some k_ = (.slice Ao90 t260.length co90 : Value).ownBlock) (.slice Ao90 t260.length co90) t260 a0_2 1 t263 w _ ?side1 ?side2 A6.out).mono ?_
      (case side1 => repeat (first | (with_reducible first | exact HB.out | apply below_alloc | apply pw_below_drewN | apply below_drew1 | refine below_set ?_ GE255.out) | exact HB.out))
      (case side2 => exact Kd.R_tight rfl HO262.out)
      rintro e w91 ⟨v264, rfl, ho0, hb, hkp⟩
      refine ⟨_, rfl, ?_⟩
      have n0_ := Aside0.mk (blk_kept (by (with_reducible repeat (first | refine blk_drewN ?_ _ | refine blk_drew ?_ | refine blk_alloc ?_ _)); exact BK255.out) hkp (fun hs_ => (fun e_ => (Kd.R_ne HO262.out BK255.out (by decide)) e_) hs_))
      have n1_ := Aside0.mk (Kd.R_mono (ok' := fun k_ => True) ho0 (fun k_ hk_ => trivial))
      have n2_ := Aside0.mk (hb)
      clear BK255
      clear HB
      clear HO262
      have BK255 := n0_
      have HO265 := n1_
      have HB := n2_
      clear n0_ n1_ n2_
      (try clear hb)
      (try clear hkp)
      (try clear ho0)
      refine hK.out _ _ (cellsK14 BK255.out) (fun hHeld => ?_)
      clear hK K
      refine norm_ (a' := ?_) ?_ ?_
      rotate_left
      ·show Act.put _ (some 18) _ = _
       simp only [Act.put, sAa, sBb, sCc, i64_w, i32_w]
       rfl
      refine pure_ (i := 9) (N := some 4) (v := ?_) (a' := ?_) #[true, true, true, true, true, true, true, true, true, true] rfl rfl (any_of HT_.out (by kernel_rfl)) (fun _ _ _ h => h) (Or.inl ⟨by rfl, ?_⟩) ?_ ?_
      rotate_left
      ·intro w'
       go_simp
       with_reducible rfl
      rotate_left
      ·simp only [Act.put, sAa, sBb, sCc, i64_w, i32_w]
       rfl
      refine done_ (done_of HT_.out (by kernel_rfl)) ?_
      obtain ⟨hcz92_0, hcz92_1, hcz92_2, hcz92_3, hcz92_4, hcz92_5, hcz92_6, hcz92_7, hcz92_8, hcz92_9, hcz92_10, hcz92_11, hcz92_12, hcz92_13⟩ := cellsK14 BK255.out
      obtain ⟨hfz92_0, hfz92_1, hfz92_2, hfz92_3, hfz92_4, hfz92_5, hfz92_6, hfz92_7, hfz92_8, hfz92_9, hfz92_10, hfz92_11, hfz92_12, hfz92_13⟩ := frozK14 BK255.out
      try go_wp2
      have n0_ := Aside0.mk (Kd.R_drew HO265.out)
      have n1_ := Aside0.mk (blk_drew BK255.out)
      have n2_ := Aside0.mk (below_drew1 HB.out)
      clear HO265
      clear BK255
      clear HB
      have HO265 := n0_
      have BK255 := n1_
      have HB := n2_
      clear n0_ n1_ n2_
      obtain ⟨Ao94, co94, eo94⟩ := Kd.R_slice HO265.out
      (first | subst eo94 | (injection eo94 with f1_ f2_ f3_; have f4_ := f1_.symm; have f5_ := f3_.symm; clear f1_ f2_ f3_; subst f4_; subst f5_))
      refine start_ (n := 8) (S := fun w' => w'.cell? ⟨gb255, 0, none⟩ = some (.int .i64 a0_0) ∧ w'.cell? ⟨gb255, 1, none⟩ = some (.int .i64 a0_1) ∧ w'.cell? ⟨gb255, 2, none⟩ = some (.int .i64 a0_2) ∧ w'.cell? ⟨gb255, 3, none⟩ = some (.int .i64 a0_3) ∧ w'.cell? ⟨gb255, 4, none⟩ = some (.int .i64 a0_4) ∧ w'.cell? ⟨gb255, 5, none⟩ = some (.int .i64 a0_5) ∧ w'.cell? ⟨gb255, 6, none⟩ = some (.bool a0_6) ∧ w'.cell? ⟨gb255, 7, none⟩ = some (.int .i64 a0_7) ∧ w'.cell? ⟨gb255, 8, none⟩ = some (.int .i64 a0_8) ∧ w'.cell? ⟨gb255, 9, none⟩ = some (.slice A0_9 l0_9.length c0_9) ∧ w'.cell? ⟨gb255, 10, none⟩ = some (.int .i64 a0_10) ∧ w'.cell? ⟨gb255, 11, none⟩ = some (.int .i64 a0_11) ∧ w'.cell? ⟨gb255, 12, none⟩ = some (.int .i64 a0_12) ∧ w'.cell? ⟨gb255, 13, none⟩ = some (.slice A0_13 l0_13.length c0_13)) (ds := []) #[false, false, false, false, false, false, false, false] (by kernel_rfl) rfl rfl (cellsK14 BK255.out) (fun hHeld => ?_); refine with_tabW drumlineref1_Encode.tab14 drumlineref1_Encode.bits14 (fun HT_ HW_ => ?_)
      generalize w91.drew = w93 at HO265 BK255 HB hHeld ⊢
      refine pure_ (i := 0) (N := some 63) (v := ?_) (a' := ?_) #[true, false, false, false, false, false, false, false] rfl rfl (any_of HT_.out (by kernel_rfl)) (fun _ _ _ h => h) (Or.inl ⟨by rfl, ?_⟩) ?_ ?_
      rotate_left
      ·intro w'
       go_simp
       with_reducible rfl
      rotate_left
      ·simp only [Act.put, sAa, sBb, sCc, i64_w, i32_w]
       rfl
      refine pure_ (i := 1) (N := some 64) (v := ?_) (a' := ?_) #[true, true, false, false, false, false, false, false] rfl rfl (any_of HT_.out (by kernel_rfl)) (fun _ _ _ h => h) (Or.inl ⟨by rfl, ?_⟩) ?_ ?_
      rotate_left
      ·intro w'
       go_simp
       with_reducible rfl
      rotate_left
      ·simp only [Act.put, sAa, sBb, sCc, i64_w, i32_w]
       rfl
      refine pure_ (i := 4) (N := some 67) (v := ?_) (a' := ?_) #[true, true, false, false, true, false, false, false] rfl rfl (any_of HT_.out (by kernel_rfl)) (fun _ _ _ h => h) (Or.inl ⟨by rfl, ?_⟩) ?_ ?_
      rotate_left
      ·intro w'
       go_simp
       with_reducible rfl
      rotate_left
      ·simp only [Act.put, sAa, sBb, sCc, i64_w, i32_w]
       rfl
      refine take_ (i := 2) (N := some 65) (v := ?_) (a' := ?_) #[true, true, true, false, true, false, false, false] rfl rfl (take_ofW HT_.out HW_.out (by kernel_rfl)) (fun _ _ _ h => h) (Or.inl ⟨by rfl, ?_⟩) hHeld ?_ ?_
      rotate_left
      ·rintro w' ⟨s0, s1, s2, s3, s4, s5, s6, s7, s8, s9, s10, s11, s12, s13⟩
       go_simp
       with_reducible rfl
      rotate_left
      ·simp only [Act.put, sAa, sBb, sCc, i64_w, i32_w]
       rfl
      refine take_ (i := 5) (N := some 68) (v := ?_) (a' := ?_) #[true, true, true, false, true, true, false, false] rfl rfl (take_ofW HT_.out HW_.out (by kernel_rfl)) (fun _ _ _ h => h) (Or.inl ⟨by rfl, ?_⟩) hHeld ?_ ?_
      rotate_left
      ·rintro w' ⟨s0, s1, s2, s3, s4, s5, s6, s7, s8, s9, s10, s11, s12, s13⟩
       go_simp
       with_reducible rfl
      rotate_left
      ·simp only [Act.put, sAa, sBb, sCc, i64_w, i32_w]
       rfl
      refine one_ (i := 3) (N := some 66) #[true, true, true, true, true, true, false, false] rfl rfl (one_of HT_.out (by kernel_rfl)) (by decide) (fun K hK => ?_)
      refine goes_ Tryd.func25 (by kernel_rfl) rfl #[.slice Ao94 t263.length co94, .int .i64 a0_5, .int .i64 1] (by rfl) rfl rfl (by (try simp only [List.map_toArray, List.map_cons, List.map_nil]); first | done | rfl | (simp only [List.length_drop, List.length_take]; rfl)) ?_
      with_reducible refine (drumlineref1_put.calls k (fun k_ => some k_ = (.slice Ao94 t263.length co94 : Value).ownBlock) (.slice Ao94 t263.length co94) t263 a0_5 1 t304 w _ ?side1 ?side2 A80.out).mono ?_
      (case side1 => repeat (first | (with_reducible first | exact HB.out | apply below_alloc | apply pw_below_drewN | apply below_drew1 | refine below_set ?_ GE255.out) | exact HB.out))
      (case side2 => exact Kd.R_tight rfl HO265.out)
      rintro e w95 ⟨v305, rfl, ho0, hb, hkp⟩
      refine ⟨_, rfl, ?_⟩
      have n0_ := Aside0.mk (blk_kept (by (with_reducible repeat (first | refine blk_drewN ?_ _ | refine blk_drew ?_ | refine blk_alloc ?_ _)); exact BK255.out) hkp (fun hs_ => (fun e_ => (Kd.R_ne HO265.out BK255.out (by decide)) e_) hs_))
      have n1_ := Aside0.mk (Kd.R_mono (ok' := fun k_ => True) ho0 (fun k_ hk_ => trivial))
      have n2_ := Aside0.mk (hb)
      clear BK255
      clear HB
      clear HO265
      have BK255 := n0_
      have HO306 := n1_
      have HB := n2_
      clear n0_ n1_ n2_
      (try clear hb)
      (try clear hkp)
      (try clear ho0)
      obtain ⟨Ao96, co96, eo96⟩ := Kd.R_slice HO306.out
      (first | subst eo96 | (injection eo96 with f1_ f2_ f3_; have f4_ := f1_.symm; have f5_ := f3_.symm; clear f1_ f2_ f3_; subst f4_; subst f5_))
      refine hK.out _ _ (cellsK14 BK255.out) (fun hHeld => ?_)
      clear hK K
      refine norm_ (a' := ?_) ?_ ?_
      rotate_left
      ·show Act.put _ (some 66) _ = _
       simp only [Act.put, sAa, sBb, sCc, i64_w, i32_w]
       rfl
      refine one_ (i := 6) (N := some 69) #[true, true, true, true, true, true, true, false] rfl rfl (one_of HT_.out (by kernel_rfl)) (by decide) (fun K hK => ?_)
      refine goes_ Tryd.func26 (by kernel_rfl) rfl #[.slice Ao96 t304.length co96, .slice A0_9 l0_9.length c0_9] (by rfl) rfl rfl (by (try simp only [List.map_toArray, List.map_cons, List.map_nil]); first | done | rfl | (simp only [List.length_drop, List.length_take]; rfl)) ?_
      with_reducible refine (drumlineref1_putAges.calls k (fun k_ => some k_ = (.slice Ao96 t304.length co96 : Value).ownBlock) (.slice Ao96 t304.length co96) t304 _ _ l0_9 t307 w _ ?side1 ?side2 ?side3 ?side4 A81.out).mono ?_
      (case side1 => repeat (first | (with_reducible first | exact HB.out | apply below_alloc | apply pw_below_drewN | apply below_drew1 | refine below_set ?_ GE255.out) | exact HB.out))
      (case side2 => exact Kd.R_tight rfl HO306.out)
      (case side3 => exact Kd.C_kept_came (Kd.heap_int .i64) HR0_9.out (by repeat (first | (with_reducible first | exact HB.out | apply below_alloc | apply pw_below_drewN | apply below_drew1 | refine below_set ?_ GE255.out) | exact HB.out)) (fun k_ hs_ => (fun e_ => Kd.R_base HO306.out k_ e_.symm) hs_))
      (case side4 => exact HC0_9.out)
      rintro e w97 ⟨v308, rfl, ho0, hb, hkp⟩
      refine ⟨_, rfl, ?_⟩
      have n0_ := Aside0.mk (blk_kept (by (with_reducible repeat (first | refine blk_drewN ?_ _ | refine blk_drew ?_ | refine blk_alloc ?_ _)); exact BK255.out) hkp (fun hs_ => (fun e_ => (Kd.R_ne HO306.out BK255.out (by decide)) e_) hs_))
      have n1_ := Aside0.mk (Kd.R_mono (ok' := fun k_ => True) ho0 (fun k_ hk_ => trivial))
      have n2_ := Aside0.mk (hb)
      clear BK255
      clear HB
      clear HO306
      have BK255 := n0_
      have HO309 := n1_
      have HB := n2_
      clear n0_ n1_ n2_
      (try clear hb)
      (try clear hkp)
      (try clear ho0)
      refine hK.out _ _ (cellsK14 BK255.out) (fun hHeld => ?_)
      clear hK K
      refine norm_ (a' := ?_) ?_ ?_
      rotate_left
      ·show Act.put _ (some 69) _ = _
       simp only [Act.put, sAa, sBb, sCc, i64_w, i32_w]
       rfl
      refine pure_ (i := 7) (N := some 4) (v := ?_) (a' := ?_) #[true, true, true, true, true, true, true, true] rfl rfl (any_of HT_.out (by kernel_rfl)) (fun _ _ _ h => h) (Or.inl ⟨by rfl, ?_⟩) ?_ ?_
      rotate_left
      ·intro w'
       go_simp
       with_reducible rfl
      rotate_left
      ·simp only [Act.put, sAa, sBb, sCc, i64_w, i32_w]
       rfl
      refine done_ (done_of HT_.out (by kernel_rfl)) ?_
      obtain ⟨Ao98, co98, eo98⟩ := Kd.R_slice HO309.out
      subst eo98
      try go_wp2_with (first | ((with_reducible refine gate_callee (f := 18) rfl ?_); refine goesL_ (some 94) rfl rfl Tryd.func18 (by kernel_rfl) rfl #[.slice Ao98 t307.length co98] rfl (by (try simp only [List.map_toArray, List.map_cons, List.map_nil]); first | done | rfl | (simp only [List.length_drop, List.length_take]; rfl)) ?_; (with_reducible refine (drumlineref1_Seal.calls k _ _ t307 t310 _ ?side1 ?side2 A82.out).mono ?_); (case side1 => repeat (first | exact (Kd.R_reads' HO309.out).2.2 | (with_reducible refine Kd.C_alloc ?_ _) | (with_reducible refine Kd.C_drewN ?_ _) | (with_reducible refine Kd.C_drew ?_))); (case side2 => exact (Kd.R_reads' HO309.out).2.1); rintro e w99 ⟨v311, rfl, ho0, hb⟩; refine ⟨_, rfl, ?_⟩; have n0_ := Aside0.mk (Kd.R_elder' (by (with_reducible repeat (first | apply Kd.R_alloc | apply Kd.R_drewN | apply Kd.R_drew)); exact HO309.out) (Kd.R_base ho0) hb); have n1_ := Aside0.mk (Kd.R_lower (Kd.R_new' ho0 (Kd.R_lt (by (with_reducible repeat (first | apply Kd.R_alloc | apply Kd.R_drewN | apply Kd.R_drew)); exact HO309.out))) (below_size (by repeat (first | (with_reducible first | exact HB.out | apply below_alloc | apply pw_below_drewN | apply below_drew1 | refine below_set ?_ GE255.out) | exact HB.out)))); have n2_ := Aside0.mk (blk_below (g := gb255) (by (with_reducible repeat (first | refine blk_drewN ?_ _ | refine blk_drew ?_ | refine blk_alloc ?_ _)); exact BK255.out) hb); have n3_ := Aside0.mk (below_step (by repeat (first | (with_reducible first | exact HB.out | apply below_alloc | apply pw_below_drewN | apply below_drew1 | refine below_set ?_ GE255.out) | exact HB.out)) hb); clear HO309; clear BK255; clear HB; have HO309 := n0_; have HO312 := n1_; have BK255 := n2_; have HB := n3_; clear n0_ n1_ n2_ n3_; (try clear hb); (try clear hb2); (try clear hk); (try clear hi); (try clear ho0)))
      go_ret2
      exact ⟨_, by first | rfl | (simp [errW_none, errW_some] <;> rfl) | (simp [*, errW_none, errW_some] <;> rfl), by (with_reducible repeat (first | apply Kd.R_alloc | apply Kd.R_drewN | apply Kd.R_drew)); exact Kd.R_mono HO312.out (fun _ hk => trivial), by repeat (first | (with_reducible first | exact HB.out | apply below_alloc | apply pw_below_drewN | apply below_drew1 | refine below_set ?_ GE255.out) | exact HB.out)⟩
     ·rw [if_neg c79] at H
      have c79b0 : (a0_0 == 4) = false := beq_eq_false_iff_ne.mpr c79
      have c79b1 : (a0_0 != 4) = true := bne_iff_ne.mpr c79
      by_cases c100 : a0_0 = 5
      ·rw [if_pos c100] at H
       have c100b0 : (a0_0 == 5) = true := beq_iff_eq.mpr c100
       have c100b1 : (a0_0 != 5) = false := bne_eq_false_iff_eq.mpr c100
       clear c100
       replace H := Option.bind_eq_some_iff.mp H
       obtain ⟨t313, A1010, H⟩ := H
       replace H : ((drumlineref1_put.f k t313 a0_10 1).bind fun t316 => ((drumlineref1_put.f k t316 a0_11 1).bind fun t319 => ((drumlineref1_put.f k t319 a0_12 4).bind fun t322 => ((drumlineref1_put.f k t322 (l0_13.length : Int) 1).bind fun t325 => (if t325.length + l0_13.length < 140737488355328 then ((drumlineref1_Seal.f k (t325 ++ l0_13)).bind fun t331 => (some (t331, 0))) else (none)))))) = some (r1, r2) := H
       have A101 := Aside0.mk A1010
       clear A1010
       replace H := Option.bind_eq_some_iff.mp H
       obtain ⟨t316, A1020, H⟩ := H
       replace H : ((drumlineref1_put.f k t316 a0_11 1).bind fun t319 => ((drumlineref1_put.f k t319 a0_12 4).bind fun t322 => ((drumlineref1_put.f k t322 (l0_13.length : Int) 1).bind fun t325 => (if t325.length + l0_13.length < 140737488355328 then ((drumlineref1_Seal.f k (t325 ++ l0_13)).bind fun t331 => (some (t331, 0))) else (none))))) = some (r1, r2) := H
       have A102 := Aside0.mk A1020
       clear A1020
       replace H := Option.bind_eq_some_iff.mp H
       obtain ⟨t319, A1030, H⟩ := H
       replace H : ((drumlineref1_put.f k t319 a0_12 4).bind fun t322 => ((drumlineref1_put.f k t322 (l0_13.length : Int) 1).bind fun t325 => (if t325.length + l0_13.length < 140737488355328 then ((drumlineref1_Seal.f k (t325 ++ l0_13)).bind fun t331 => (some (t331, 0))) else (none)))) = some (r1, r2) := H
       have A103 := Aside0.mk A1030
       clear A1030
       replace H := Option.bind_eq_some_iff.mp H
       obtain ⟨t322, A1040, H⟩ := H
       replace H : ((drumlineref1_put.f k t322 (l0_13.length : Int) 1).bind fun t325 => (if t325.length + l0_13.length < 140737488355328 then ((drumlineref1_Seal.f k (t325 ++ l0_13)).bind fun t331 => (some (t331, 0))) else (none))) = some (r1, r2) := H
       have A104 := Aside0.mk A1040
       clear A1040
       replace H := Option.bind_eq_some_iff.mp H
       obtain ⟨t325, A1050, H⟩ := H
       replace H : (if t325.length + l0_13.length < 140737488355328 then ((drumlineref1_Seal.f k (t325 ++ l0_13)).bind fun t331 => (some (t331, 0))) else (none)) = some (r1, r2) := H
       have A105 := Aside0.mk A1050
       clear A1050
       by_cases c106 : t325.length + l0_13.length < 140737488355328
       ·rw [if_pos c106] at H
        have LMc106 := Aside0.mk c106
        clear c106
        obtain ⟨y328, hy328⟩ : ∃ y_ : List Int, y_ = (t325 ++ l0_13) := ⟨_, rfl⟩
        replace H : ((drumlineref1_Seal.f k y328).bind fun t331 => (some (t331, 0))) = some (r1, r2) := by first | (rw [hy328]; with_reducible exact H) | (have H2_ := (Option.bind_some _ _).symm.trans H; rw [hy328]; with_reducible exact H2_) | (have H2_ := (Option.bind_some _ _).symm.trans H; with_reducible exact H2_) | with_reducible exact H | (rw [hy328]; exact H) | exact H
        have Ny328 := Aside0.mk hy328
        clear hy328
        replace H := Option.bind_eq_some_iff.mp H
        obtain ⟨t331, A1070, H⟩ := H
        replace H : (some (t331, 0)) = some (r1, r2) := H
        have A107 := Aside0.mk A1070
        clear A1070
        simp only [Option.some.injEq, Prod.mk.injEq] at H
        obtain ⟨rfl, rfl⟩ := H
        go_enter Tryd.func11, Tryd.ntmps11
        try go_wp2_with (first | ((with_reducible refine gate_dst (N := 1) rfl ?_); refine box_event ?hg (N := 1) ?hd (cs := #[.int .i64 a0_0, .int .i64 a0_1, .int .i64 a0_2, .int .i64 a0_3, .int .i64 a0_4, .int .i64 a0_5, .bool a0_6, .int .i64 a0_7, .int .i64 a0_8, .slice A0_9 l0_9.length c0_9, .int .i64 a0_10, .int .i64 a0_11, .int .i64 a0_12, .slice A0_13 l0_13.length c0_13]) (t := 25) ?hr ?_; (case hd => rfl); (case hg => rfl); (case hr => first | (go_simp; done) | (go_simp; rfl)); intro gb255 hg w108 hbox hb; have n0_ := Aside0.mk (below_step (by repeat (first | (with_reducible first | exact HB.out | apply below_alloc | apply pw_below_drewN | apply below_drew1) | exact HB.out)) hb); have n1_ := Aside0.mk (hbox); have n2_ := Aside0.mk ((by rw [hg]; exact (below_size (by repeat (first | (with_reducible first | exact HB.out | apply below_alloc | apply pw_below_drewN | apply below_drew1) | exact HB.out))) : w.heap.size ≤ gb255)); have n3_ := Aside0.mk ((by rw [hg]; exact (below_size (by repeat (first | (with_reducible first | exact HB.out | apply below_alloc | apply pw_below_drewN | apply below_drew1) | exact HB.out))) : w.heap.size ≤ gb255)); clear HB; have HB := n0_; have BK255 := n1_; have GW255 := n2_; have GE255 := n3_; clear n0_ n1_ n2_ n3_; clear hb hbox hg; obtain ⟨hcz109_0, hcz109_1, hcz109_2, hcz109_3, hcz109_4, hcz109_5, hcz109_6, hcz109_7, hcz109_8, hcz109_9, hcz109_10, hcz109_11, hcz109_12, hcz109_13⟩ := cellsK14 BK255.out; obtain ⟨hfz109_0, hfz109_1, hfz109_2, hfz109_3, hfz109_4, hfz109_5, hfz109_6, hfz109_7, hfz109_8, hfz109_9, hfz109_10, hfz109_11, hfz109_12, hfz109_13⟩ := frozK14 BK255.out) | ((with_reducible refine gate_callee (f := 13) rfl ?_); refine goesL_ (some 8) rfl rfl Tryd.func13 (by kernel_rfl) rfl #[.agg #[.int .i64 a0_0, .int .i64 a0_1, .int .i64 a0_2, .int .i64 a0_3, .int .i64 a0_4, .int .i64 a0_5, .bool a0_6, .int .i64 a0_7, .int .i64 a0_8, .slice A0_9 l0_9.length c0_9, .int .i64 a0_10, .int .i64 a0_11, .int .i64 a0_12, .slice A0_13 l0_13.length c0_13]] rfl (by (try simp only [List.map_toArray, List.map_cons, List.map_nil]); first | done | rfl | (simp only [List.length_drop, List.length_take]; rfl)) ?_; (with_reducible refine (drumlineref1_May.calls k a0_0 a0_1 a0_2 a0_3 a0_4 a0_5 a0_6 a0_7 a0_8 _ _ l0_9 a0_10 a0_11 a0_12 _ _ l0_13 true _ ?side1 ?side2 ?side3 ?side4 A2.out).mono ?_); (case side1 => repeat (first | exact (Kd.C_below HR0_9.out HB.out) | (with_reducible refine Kd.C_alloc ?_ _) | (with_reducible refine Kd.C_drewN ?_ _) | (with_reducible refine Kd.C_drew ?_))); (case side2 => exact HC0_9.out); (case side3 => repeat (first | exact (Kd.C_below HR0_13.out HB.out) | (with_reducible refine Kd.C_alloc ?_ _) | (with_reducible refine Kd.C_drewN ?_ _) | (with_reducible refine Kd.C_drew ?_))); (case side4 => exact HC0_13.out); rintro e w110 ⟨rfl, hb⟩; refine ⟨_, rfl, ?_⟩; have n0_ := Aside0.mk (blk_below (g := gb255) (by (with_reducible repeat (first | refine blk_drewN ?_ _ | refine blk_drew ?_ | refine blk_alloc ?_ _)); exact BK255.out) hb); have n1_ := Aside0.mk (below_step (by repeat (first | (with_reducible first | exact HB.out | apply below_alloc | apply pw_below_drewN | apply below_drew1 | refine below_set ?_ GE255.out) | exact HB.out)) hb); clear BK255; clear HB; have BK255 := n0_; have HB := n1_; clear n0_ n1_; (try clear hb); (try clear hb2); (try clear hk); (try clear hi)))
        have n0_ := Aside0.mk (blk_drew BK255.out)
        have n1_ := Aside0.mk (below_drew1 HB.out)
        clear BK255
        clear HB
        have BK255 := n0_
        have HB := n1_
        clear n0_ n1_
        refine start_ (n := 10) (S := fun w' => w'.cell? ⟨gb255, 0, none⟩ = some (.int .i64 a0_0) ∧ w'.cell? ⟨gb255, 1, none⟩ = some (.int .i64 a0_1) ∧ w'.cell? ⟨gb255, 2, none⟩ = some (.int .i64 a0_2) ∧ w'.cell? ⟨gb255, 3, none⟩ = some (.int .i64 a0_3) ∧ w'.cell? ⟨gb255, 4, none⟩ = some (.int .i64 a0_4) ∧ w'.cell? ⟨gb255, 5, none⟩ = some (.int .i64 a0_5) ∧ w'.cell? ⟨gb255, 6, none⟩ = some (.bool a0_6) ∧ w'.cell? ⟨gb255, 7, none⟩ = some (.int .i64 a0_7) ∧ w'.cell? ⟨gb255, 8, none⟩ = some (.int .i64 a0_8) ∧ w'.cell? ⟨gb255, 9, none⟩ = some (.slice A0_9 l0_9.length c0_9) ∧ w'.cell? ⟨gb255, 10, none⟩ = some (.int .i64 a0_10) ∧ w'.cell? ⟨gb255, 11, none⟩ = some (.int .i64 a0_11) ∧ w'.cell? ⟨gb255, 12, none⟩ = some (.int .i64 a0_12) ∧ w'.cell? ⟨gb255, 13, none⟩ = some (.slice A0_13 l0_13.length c0_13)) (ds := []) #[false, false, false, false, false, false, false, false, false, false] (by kernel_rfl) rfl rfl (cellsK14 BK255.out) (fun hHeld => ?_); refine with_tabW drumlineref1_Encode.tab3 drumlineref1_Encode.bits3 (fun HT_ HW_ => ?_)
        generalize w110.drew = w111 at BK255 HB hHeld ⊢
        refine pure_ (i := 0) (N := some 10) (v := ?_) (a' := ?_) #[true, false, false, false, false, false, false, false, false, false] rfl rfl (any_of HT_.out (by kernel_rfl)) (fun _ _ _ h => h) (Or.inl ⟨by rfl, ?_⟩) ?_ ?_
        rotate_left
        ·intro w'
         go_simp
         with_reducible rfl
        rotate_left
        ·simp only [Act.put, sAa, sBb, sCc, i64_w, i32_w]
         rfl
        refine pure_ (i := 3) (N := some 13) (v := ?_) (a' := ?_) #[true, false, false, true, false, false, false, false, false, false] rfl rfl (any_of HT_.out (by kernel_rfl)) (fun _ _ _ h => h) (Or.inl ⟨by rfl, ?_⟩) ?_ ?_
        rotate_left
        ·intro w'
         go_simp
         with_reducible rfl
        rotate_left
        ·simp only [Act.put, sAa, sBb, sCc, i64_w, i32_w]
         rfl
        refine pure_ (i := 6) (N := some 16) (v := ?_) (a' := ?_) #[true, false, false, true, false, false, true, false, false, false] rfl rfl (any_of HT_.out (by kernel_rfl)) (fun _ _ _ h => h) (Or.inl ⟨by rfl, ?_⟩) ?_ ?_
        rotate_left
        ·intro w'
         go_simp
         with_reducible rfl
        rotate_left
        ·simp only [Act.put, sAa, sBb, sCc, i64_w, i32_w]
         rfl
        refine take_ (i := 1) (N := some 11) (v := ?_) (a' := ?_) #[true, true, false, true, false, false, true, false, false, false] rfl rfl (take_ofW HT_.out HW_.out (by kernel_rfl)) (fun _ _ _ h => h) (Or.inl ⟨by rfl, ?_⟩) hHeld ?_ ?_
        rotate_left
        ·rintro w' ⟨s0, s1, s2, s3, s4, s5, s6, s7, s8, s9, s10, s11, s12, s13⟩
         go_simp
         with_reducible rfl
        rotate_left
        ·simp only [Act.put, sAa, sBb, sCc, i64_w, i32_w]
         rfl
        refine take_ (i := 4) (N := some 14) (v := ?_) (a' := ?_) #[true, true, false, true, true, false, true, false, false, false] rfl rfl (take_ofW HT_.out HW_.out (by kernel_rfl)) (fun _ _ _ h => h) (Or.inl ⟨by rfl, ?_⟩) hHeld ?_ ?_
        rotate_left
        ·rintro w' ⟨s0, s1, s2, s3, s4, s5, s6, s7, s8, s9, s10, s11, s12, s13⟩
         go_simp
         with_reducible rfl
        rotate_left
        ·simp only [Act.put, sAa, sBb, sCc, i64_w, i32_w]
         rfl
        refine take_ (i := 7) (N := some 17) (v := ?_) (a' := ?_) #[true, true, false, true, true, false, true, true, false, false] rfl rfl (take_ofW HT_.out HW_.out (by kernel_rfl)) (fun _ _ _ h => h) (Or.inl ⟨by rfl, ?_⟩) hHeld ?_ ?_
        rotate_left
        ·rintro w' ⟨s0, s1, s2, s3, s4, s5, s6, s7, s8, s9, s10, s11, s12, s13⟩
         go_simp
         with_reducible rfl
        rotate_left
        ·simp only [Act.put, sAa, sBb, sCc, i64_w, i32_w]
         rfl
        refine one_ (i := 2) (N := some 12) #[true, true, true, true, true, false, true, true, false, false] rfl rfl (one_of HT_.out (by kernel_rfl)) (by decide) (fun K hK => ?_)
        refine goes_ Tryd.func25 (by kernel_rfl) rfl #[.slice none 0 0, .int .i64 a0_0, .int .i64 1] (by rfl) rfl rfl (by (try simp only [List.map_toArray, List.map_cons, List.map_nil]); first | done | rfl | (simp only [List.length_drop, List.length_take]; rfl)) ?_
        refine (drumlineref1_put.calls k (fun k_ => some k_ = (.slice none 0 0 : Value).ownBlock) (.slice none 0 0) ([] : List Int) a0_0 1 t257 w _ ?side1 ?side2 A4.out).mono ?_
        (case side1 => repeat (first | (with_reducible first | exact HB.out | apply below_alloc | apply pw_below_drewN | apply below_drew1 | refine below_set ?_ GE255.out) | exact HB.out))
        (case side2 => exact Kd.R_nil _ _ _ _ _)
        rintro e w112 ⟨v258, rfl, ho0, hb, hkp⟩
        refine ⟨_, rfl, ?_⟩
        have n0_ := Aside0.mk (blk_kept (by (with_reducible repeat (first | refine blk_drewN ?_ _ | refine blk_drew ?_ | refine blk_alloc ?_ _)); exact BK255.out) hkp (fun hs_ => (fun e_ => by simp [Value.ownBlock] at e_) hs_))
        have n1_ := Aside0.mk (Kd.R_mono (ok' := fun k_ => True) ho0 (fun k_ hk_ => trivial))
        have n2_ := Aside0.mk (hb)
        clear BK255
        clear HB
        have BK255 := n0_
        have HO259 := n1_
        have HB := n2_
        clear n0_ n1_ n2_
        (try clear hb)
        (try clear hkp)
        (try clear ho0)
        obtain ⟨Ao113, co113, eo113⟩ := Kd.R_slice HO259.out
        (first | subst eo113 | (injection eo113 with f1_ f2_ f3_; have f4_ := f1_.symm; have f5_ := f3_.symm; clear f1_ f2_ f3_; subst f4_; subst f5_))
        refine hK.out _ _ (cellsK14 BK255.out) (fun hHeld => ?_)
        clear hK K
        refine norm_ (a' := ?_) ?_ ?_
        rotate_left
        ·show Act.put _ (some 12) _ = _
         simp only [Act.put, sAa, sBb, sCc, i64_w, i32_w]
         rfl
        refine one_ (i := 5) (N := some 15) #[true, true, true, true, true, true, true, true, false, false] rfl rfl (one_of HT_.out (by kernel_rfl)) (by decide) (fun K hK => ?_)
        refine goes_ Tryd.func25 (by kernel_rfl) rfl #[.slice Ao113 t257.length co113, .int .i64 a0_1, .int .i64 1] (by rfl) rfl rfl (by (try simp only [List.map_toArray, List.map_cons, List.map_nil]); first | done | rfl | (simp only [List.length_drop, List.length_take]; rfl)) ?_
        with_reducible refine (drumlineref1_put.calls k (fun k_ => some k_ = (.slice Ao113 t257.length co113 : Value).ownBlock) (.slice Ao113 t257.length co113) t257 a0_1 1 t260 w _ ?side1 ?side2 A5.out).mono ?_
        (case side1 => repeat (first | (with_reducible first | exact HB.out | apply below_alloc | apply pw_below_drewN | apply below_drew1 | refine below_set ?_ GE255.out) | exact HB.out))
        (case side2 => exact Kd.R_tight rfl HO259.out)
        rintro e w114 ⟨v261, rfl, ho0, hb, hkp⟩
        refine ⟨_, rfl, ?_⟩
        have n0_ := Aside0.mk (blk_kept (by (with_reducible repeat (first | refine blk_drewN ?_ _ | refine blk_drew ?_ | refine blk_alloc ?_ _)); exact BK255.out) hkp (fun hs_ => (fun e_ => (Kd.R_ne HO259.out BK255.out (by decide)) e_) hs_))
        have n1_ := Aside0.mk (Kd.R_mono (ok' := fun k_ => True) ho0 (fun k_ hk_ => trivial))
        have n2_ := Aside0.mk (hb)
        clear BK255
        clear HB
        clear HO259
        have BK255 := n0_
        have HO262 := n1_
        have HB := n2_
        clear n0_ n1_ n2_
        (try clear hb)
        (try clear hkp)
        (try clear ho0)
        obtain ⟨Ao115, co115, eo115⟩ := Kd.R_slice HO262.out
        (first | subst eo115 | (injection eo115 with f1_ f2_ f3_; have f4_ := f1_.symm; have f5_ := f3_.symm; clear f1_ f2_ f3_; subst f4_; subst f5_))
        refine hK.out _ _ (cellsK14 BK255.out) (fun hHeld => ?_)
        clear hK K
        refine norm_ (a' := ?_) ?_ ?_
        rotate_left
        ·show Act.put _ (some 15) _ = _
         simp only [Act.put, sAa, sBb, sCc, i64_w, i32_w]
         rfl
        refine one_ (i := 8) (N := some 18) #[true, true, true, true, true, true, true, true, true, false] rfl rfl (one_of HT_.out (by kernel_rfl)) (by decide) (fun K hK => ?_)
        refine goes_ Tryd.func25 (by kernel_rfl) rfl #[.slice Ao115 t260.length co115, .int .i64 a0_2, .int .i64 1] (by rfl) rfl rfl (by (try simp only [List.map_toArray, List.map_cons, List.map_nil]); first | done | rfl | (simp only [List.length_drop, List.length_take]; rfl)) ?_
        with_reducible refine (drumlineref1_put.calls k (fun k_ => some k_ = (.slice Ao115 t260.length co115 : Value).ownBlock) (.slice Ao115 t260.length co115) t260 a0_2 1 t263 w _ ?side1 ?side2 A6.out).mono ?_
        (case side1 => repeat (first | (with_reducible first | exact HB.out | apply below_alloc | apply pw_below_drewN | apply below_drew1 | refine below_set ?_ GE255.out) | exact HB.out))
        (case side2 => exact Kd.R_tight rfl HO262.out)
        rintro e w116 ⟨v264, rfl, ho0, hb, hkp⟩
        refine ⟨_, rfl, ?_⟩
        have n0_ := Aside0.mk (blk_kept (by (with_reducible repeat (first | refine blk_drewN ?_ _ | refine blk_drew ?_ | refine blk_alloc ?_ _)); exact BK255.out) hkp (fun hs_ => (fun e_ => (Kd.R_ne HO262.out BK255.out (by decide)) e_) hs_))
        have n1_ := Aside0.mk (Kd.R_mono (ok' := fun k_ => True) ho0 (fun k_ hk_ => trivial))
        have n2_ := Aside0.mk (hb)
        clear BK255
        clear HB
        clear HO262
        have BK255 := n0_
        have HO265 := n1_
        have HB := n2_
        clear n0_ n1_ n2_
        (try clear hb)
        (try clear hkp)
        (try clear ho0)
        refine hK.out _ _ (cellsK14 BK255.out) (fun hHeld => ?_)
        clear hK K
        refine norm_ (a' := ?_) ?_ ?_
        rotate_left
        ·show Act.put _ (some 18) _ = _
         simp only [Act.put, sAa, sBb, sCc, i64_w, i32_w]
         rfl
        refine pure_ (i := 9) (N := some 4) (v := ?_) (a' := ?_) #[true, true, true, true, true, true, true, true, true, true] rfl rfl (any_of HT_.out (by kernel_rfl)) (fun _ _ _ h => h) (Or.inl ⟨by rfl, ?_⟩) ?_ ?_
        rotate_left
        ·intro w'
         go_simp
         with_reducible rfl
        rotate_left
        ·simp only [Act.put, sAa, sBb, sCc, i64_w, i32_w]
         rfl
        refine done_ (done_of HT_.out (by kernel_rfl)) ?_
        obtain ⟨hcz117_0, hcz117_1, hcz117_2, hcz117_3, hcz117_4, hcz117_5, hcz117_6, hcz117_7, hcz117_8, hcz117_9, hcz117_10, hcz117_11, hcz117_12, hcz117_13⟩ := cellsK14 BK255.out
        obtain ⟨hfz117_0, hfz117_1, hfz117_2, hfz117_3, hfz117_4, hfz117_5, hfz117_6, hfz117_7, hfz117_8, hfz117_9, hfz117_10, hfz117_11, hfz117_12, hfz117_13⟩ := frozK14 BK255.out
        try go_wp2
        have n0_ := Aside0.mk (Kd.R_drew HO265.out)
        have n1_ := Aside0.mk (blk_drew BK255.out)
        have n2_ := Aside0.mk (below_drew1 HB.out)
        clear HO265
        clear BK255
        clear HB
        have HO265 := n0_
        have BK255 := n1_
        have HB := n2_
        clear n0_ n1_ n2_
        obtain ⟨Ao119, co119, eo119⟩ := Kd.R_slice HO265.out
        (first | subst eo119 | (injection eo119 with f1_ f2_ f3_; have f4_ := f1_.symm; have f5_ := f3_.symm; clear f1_ f2_ f3_; subst f4_; subst f5_))
        refine start_ (n := 14) (S := fun w' => w'.cell? ⟨gb255, 0, none⟩ = some (.int .i64 a0_0) ∧ w'.cell? ⟨gb255, 1, none⟩ = some (.int .i64 a0_1) ∧ w'.cell? ⟨gb255, 2, none⟩ = some (.int .i64 a0_2) ∧ w'.cell? ⟨gb255, 3, none⟩ = some (.int .i64 a0_3) ∧ w'.cell? ⟨gb255, 4, none⟩ = some (.int .i64 a0_4) ∧ w'.cell? ⟨gb255, 5, none⟩ = some (.int .i64 a0_5) ∧ w'.cell? ⟨gb255, 6, none⟩ = some (.bool a0_6) ∧ w'.cell? ⟨gb255, 7, none⟩ = some (.int .i64 a0_7) ∧ w'.cell? ⟨gb255, 8, none⟩ = some (.int .i64 a0_8) ∧ w'.cell? ⟨gb255, 9, none⟩ = some (.slice A0_9 l0_9.length c0_9) ∧ w'.cell? ⟨gb255, 10, none⟩ = some (.int .i64 a0_10) ∧ w'.cell? ⟨gb255, 11, none⟩ = some (.int .i64 a0_11) ∧ w'.cell? ⟨gb255, 12, none⟩ = some (.int .i64 a0_12) ∧ w'.cell? ⟨gb255, 13, none⟩ = some (.slice A0_13 l0_13.length c0_13)) (ds := []) #[false, false, false, false, false, false, false, false, false, false, false, false, false, false] (by kernel_rfl) rfl rfl (cellsK14 BK255.out) (fun hHeld => ?_); refine with_tabW drumlineref1_Encode.tab16 drumlineref1_Encode.bits16 (fun HT_ HW_ => ?_)
        generalize w116.drew = w118 at HO265 BK255 HB hHeld ⊢
        refine pure_ (i := 0) (N := some 72) (v := ?_) (a' := ?_) #[true, false, false, false, false, false, false, false, false, false, false, false, false, false] rfl rfl (any_of HT_.out (by kernel_rfl)) (fun _ _ _ h => h) (Or.inl ⟨by rfl, ?_⟩) ?_ ?_
        rotate_left
        ·intro w'
         go_simp
         with_reducible rfl
        rotate_left
        ·simp only [Act.put, sAa, sBb, sCc, i64_w, i32_w]
         rfl
        refine pure_ (i := 1) (N := some 73) (v := ?_) (a' := ?_) #[true, true, false, false, false, false, false, false, false, false, false, false, false, false] rfl rfl (any_of HT_.out (by kernel_rfl)) (fun _ _ _ h => h) (Or.inl ⟨by rfl, ?_⟩) ?_ ?_
        rotate_left
        ·intro w'
         go_simp
         with_reducible rfl
        rotate_left
        ·simp only [Act.put, sAa, sBb, sCc, i64_w, i32_w]
         rfl
        refine pure_ (i := 4) (N := some 76) (v := ?_) (a' := ?_) #[true, true, false, false, true, false, false, false, false, false, false, false, false, false] rfl rfl (any_of HT_.out (by kernel_rfl)) (fun _ _ _ h => h) (Or.inl ⟨by rfl, ?_⟩) ?_ ?_
        rotate_left
        ·intro w'
         go_simp
         with_reducible rfl
        rotate_left
        ·simp only [Act.put, sAa, sBb, sCc, i64_w, i32_w]
         rfl
        refine pure_ (i := 7) (N := some 79) (v := ?_) (a' := ?_) #[true, true, false, false, true, false, false, true, false, false, false, false, false, false] rfl rfl (any_of HT_.out (by kernel_rfl)) (fun _ _ _ h => h) (Or.inl ⟨by rfl, ?_⟩) ?_ ?_
        rotate_left
        ·intro w'
         go_simp
         with_reducible rfl
        rotate_left
        ·simp only [Act.put, sAa, sBb, sCc, i64_w, i32_w]
         rfl
        refine pure_ (i := 10) (N := some 82) (v := ?_) (a' := ?_) #[true, true, false, false, true, false, false, true, false, false, true, false, false, false] rfl rfl (any_of HT_.out (by kernel_rfl)) (fun _ _ _ h => h) (Or.inl ⟨by rfl, ?_⟩) ?_ ?_
        rotate_left
        ·intro w'
         go_simp
         with_reducible rfl
        rotate_left
        ·simp only [Act.put, sAa, sBb, sCc, i64_w, i32_w]
         rfl
        refine take_ (i := 2) (N := some 74) (v := ?_) (a' := ?_) #[true, true, true, false, true, false, false, true, false, false, true, false, false, false] rfl rfl (take_ofW HT_.out HW_.out (by kernel_rfl)) (fun _ _ _ h => h) (Or.inl ⟨by rfl, ?_⟩) hHeld ?_ ?_
        rotate_left
        ·rintro w' ⟨s0, s1, s2, s3, s4, s5, s6, s7, s8, s9, s10, s11, s12, s13⟩
         go_simp
         with_reducible rfl
        rotate_left
        ·simp only [Act.put, sAa, sBb, sCc, i64_w, i32_w]
         rfl
        refine take_ (i := 5) (N := some 77) (v := ?_) (a' := ?_) #[true, true, true, false, true, true, false, true, false, false, true, false, false, false] rfl rfl (take_ofW HT_.out HW_.out (by kernel_rfl)) (fun _ _ _ h => h) (Or.inl ⟨by rfl, ?_⟩) hHeld ?_ ?_
        rotate_left
        ·rintro w' ⟨s0, s1, s2, s3, s4, s5, s6, s7, s8, s9, s10, s11, s12, s13⟩
         go_simp
         with_reducible rfl
        rotate_left
        ·simp only [Act.put, sAa, sBb, sCc, i64_w, i32_w]
         rfl
        refine take_ (i := 8) (N := some 80) (v := ?_) (a' := ?_) #[true, true, true, false, true, true, false, true, true, false, true, false, false, false] rfl rfl (take_ofW HT_.out HW_.out (by kernel_rfl)) (fun _ _ _ h => h) (Or.inl ⟨by rfl, ?_⟩) hHeld ?_ ?_
        rotate_left
        ·rintro w' ⟨s0, s1, s2, s3, s4, s5, s6, s7, s8, s9, s10, s11, s12, s13⟩
         go_simp
         with_reducible rfl
        rotate_left
        ·simp only [Act.put, sAa, sBb, sCc, i64_w, i32_w]
         rfl
        refine take_ (i := 11) (N := some 83) (v := ?_) (a' := ?_) #[true, true, true, false, true, true, false, true, true, false, true, true, false, false] rfl rfl (take_ofW HT_.out HW_.out (by kernel_rfl)) (fun _ _ _ h => h) (Or.inl ⟨by rfl, ?_⟩) hHeld ?_ ?_
        rotate_left
        ·rintro w' ⟨s0, s1, s2, s3, s4, s5, s6, s7, s8, s9, s10, s11, s12, s13⟩
         go_simp
         with_reducible rfl
        rotate_left
        ·simp only [Act.put, sAa, sBb, sCc, i64_w, i32_w]
         rfl
        refine one_ (i := 3) (N := some 75) #[true, true, true, true, true, true, false, true, true, false, true, true, false, false] rfl rfl (one_of HT_.out (by kernel_rfl)) (by decide) (fun K hK => ?_)
        refine goes_ Tryd.func25 (by kernel_rfl) rfl #[.slice Ao119 t263.length co119, .int .i64 a0_5, .int .i64 1] (by rfl) rfl rfl (by (try simp only [List.map_toArray, List.map_cons, List.map_nil]); first | done | rfl | (simp only [List.length_drop, List.length_take]; rfl)) ?_
        with_reducible refine (drumlineref1_put.calls k (fun k_ => some k_ = (.slice Ao119 t263.length co119 : Value).ownBlock) (.slice Ao119 t263.length co119) t263 a0_5 1 t313 w _ ?side1 ?side2 A101.out).mono ?_
        (case side1 => repeat (first | (with_reducible first | exact HB.out | apply below_alloc | apply pw_below_drewN | apply below_drew1 | refine below_set ?_ GE255.out) | exact HB.out))
        (case side2 => exact Kd.R_tight rfl HO265.out)
        rintro e w120 ⟨v314, rfl, ho0, hb, hkp⟩
        refine ⟨_, rfl, ?_⟩
        have n0_ := Aside0.mk (blk_kept (by (with_reducible repeat (first | refine blk_drewN ?_ _ | refine blk_drew ?_ | refine blk_alloc ?_ _)); exact BK255.out) hkp (fun hs_ => (fun e_ => (Kd.R_ne HO265.out BK255.out (by decide)) e_) hs_))
        have n1_ := Aside0.mk (Kd.R_mono (ok' := fun k_ => True) ho0 (fun k_ hk_ => trivial))
        have n2_ := Aside0.mk (hb)
        clear BK255
        clear HB
        clear HO265
        have BK255 := n0_
        have HO315 := n1_
        have HB := n2_
        clear n0_ n1_ n2_
        (try clear hb)
        (try clear hkp)
        (try clear ho0)
        obtain ⟨Ao121, co121, eo121⟩ := Kd.R_slice HO315.out
        (first | subst eo121 | (injection eo121 with f1_ f2_ f3_; have f4_ := f1_.symm; have f5_ := f3_.symm; clear f1_ f2_ f3_; subst f4_; subst f5_))
        refine hK.out _ _ (cellsK14 BK255.out) (fun hHeld => ?_)
        clear hK K
        refine norm_ (a' := ?_) ?_ ?_
        rotate_left
        ·show Act.put _ (some 75) _ = _
         simp only [Act.put, sAa, sBb, sCc, i64_w, i32_w]
         rfl
        refine one_ (i := 6) (N := some 78) #[true, true, true, true, true, true, true, true, true, false, true, true, false, false] rfl rfl (one_of HT_.out (by kernel_rfl)) (by decide) (fun K hK => ?_)
        refine goes_ Tryd.func25 (by kernel_rfl) rfl #[.slice Ao121 t313.length co121, .int .i64 a0_10, .int .i64 1] (by rfl) rfl rfl (by (try simp only [List.map_toArray, List.map_cons, List.map_nil]); first | done | rfl | (simp only [List.length_drop, List.length_take]; rfl)) ?_
        with_reducible refine (drumlineref1_put.calls k (fun k_ => some k_ = (.slice Ao121 t313.length co121 : Value).ownBlock) (.slice Ao121 t313.length co121) t313 a0_10 1 t316 w _ ?side1 ?side2 A102.out).mono ?_
        (case side1 => repeat (first | (with_reducible first | exact HB.out | apply below_alloc | apply pw_below_drewN | apply below_drew1 | refine below_set ?_ GE255.out) | exact HB.out))
        (case side2 => exact Kd.R_tight rfl HO315.out)
        rintro e w122 ⟨v317, rfl, ho0, hb, hkp⟩
        refine ⟨_, rfl, ?_⟩
        have n0_ := Aside0.mk (blk_kept (by (with_reducible repeat (first | refine blk_drewN ?_ _ | refine blk_drew ?_ | refine blk_alloc ?_ _)); exact BK255.out) hkp (fun hs_ => (fun e_ => (Kd.R_ne HO315.out BK255.out (by decide)) e_) hs_))
        have n1_ := Aside0.mk (Kd.R_mono (ok' := fun k_ => True) ho0 (fun k_ hk_ => trivial))
        have n2_ := Aside0.mk (hb)
        clear BK255
        clear HB
        clear HO315
        have BK255 := n0_
        have HO318 := n1_
        have HB := n2_
        clear n0_ n1_ n2_
        (try clear hb)
        (try clear hkp)
        (try clear ho0)
        obtain ⟨Ao123, co123, eo123⟩ := Kd.R_slice HO318.out
        (first | subst eo123 | (injection eo123 with f1_ f2_ f3_; have f4_ := f1_.symm; have f5_ := f3_.symm; clear f1_ f2_ f3_; subst f4_; subst f5_))
        refine hK.out _ _ (cellsK14 BK255.out) (fun hHeld => ?_)
        clear hK K
        refine norm_ (a' := ?_) ?_ ?_
        rotate_left
        ·show Act.put _ (some 78) _ = _
         simp only [Act.put, sAa, sBb, sCc, i64_w, i32_w]
         rfl
        refine one_ (i := 9) (N := some 81) #[true, true, true, true, true, true, true, true, true, true, true, true, false, false] rfl rfl (one_of HT_.out (by kernel_rfl)) (by decide) (fun K hK => ?_)
        refine goes_ Tryd.func25 (by kernel_rfl) rfl #[.slice Ao123 t316.length co123, .int .i64 a0_11, .int .i64 1] (by rfl) rfl rfl (by (try simp only [List.map_toArray, List.map_cons, List.map_nil]); first | done | rfl | (simp only [List.length_drop, List.length_take]; rfl)) ?_
        with_reducible refine (drumlineref1_put.calls k (fun k_ => some k_ = (.slice Ao123 t316.length co123 : Value).ownBlock) (.slice Ao123 t316.length co123) t316 a0_11 1 t319 w _ ?side1 ?side2 A103.out).mono ?_
        (case side1 => repeat (first | (with_reducible first | exact HB.out | apply below_alloc | apply pw_below_drewN | apply below_drew1 | refine below_set ?_ GE255.out) | exact HB.out))
        (case side2 => exact Kd.R_tight rfl HO318.out)
        rintro e w124 ⟨v320, rfl, ho0, hb, hkp⟩
        refine ⟨_, rfl, ?_⟩
        have n0_ := Aside0.mk (blk_kept (by (with_reducible repeat (first | refine blk_drewN ?_ _ | refine blk_drew ?_ | refine blk_alloc ?_ _)); exact BK255.out) hkp (fun hs_ => (fun e_ => (Kd.R_ne HO318.out BK255.out (by decide)) e_) hs_))
        have n1_ := Aside0.mk (Kd.R_mono (ok' := fun k_ => True) ho0 (fun k_ hk_ => trivial))
        have n2_ := Aside0.mk (hb)
        clear BK255
        clear HB
        clear HO318
        have BK255 := n0_
        have HO321 := n1_
        have HB := n2_
        clear n0_ n1_ n2_
        (try clear hb)
        (try clear hkp)
        (try clear ho0)
        obtain ⟨Ao125, co125, eo125⟩ := Kd.R_slice HO321.out
        (first | subst eo125 | (injection eo125 with f1_ f2_ f3_; have f4_ := f1_.symm; have f5_ := f3_.symm; clear f1_ f2_ f3_; subst f4_; subst f5_))
        refine hK.out _ _ (cellsK14 BK255.out) (fun hHeld => ?_)
        clear hK K
        refine norm_ (a' := ?_) ?_ ?_
        rotate_left
        ·show Act.put _ (some 81) _ = _
         simp only [Act.put, sAa, sBb, sCc, i64_w, i32_w]
         rfl
        refine one_ (i := 12) (N := some 84) #[true, true, true, true, true, true, true, true, true, true, true, true, true, false] rfl rfl (one_of HT_.out (by kernel_rfl)) (by decide) (fun K hK => ?_)
        refine goes_ Tryd.func25 (by kernel_rfl) rfl #[.slice Ao125 t319.length co125, .int .i64 a0_12, .int .i64 4] (by rfl) rfl rfl (by (try simp only [List.map_toArray, List.map_cons, List.map_nil]); first | done | rfl | (simp only [List.length_drop, List.length_take]; rfl)) ?_
        with_reducible refine (drumlineref1_put.calls k (fun k_ => some k_ = (.slice Ao125 t319.length co125 : Value).ownBlock) (.slice Ao125 t319.length co125) t319 a0_12 4 t322 w _ ?side1 ?side2 A104.out).mono ?_
        (case side1 => repeat (first | (with_reducible first | exact HB.out | apply below_alloc | apply pw_below_drewN | apply below_drew1 | refine below_set ?_ GE255.out) | exact HB.out))
        (case side2 => exact Kd.R_tight rfl HO321.out)
        rintro e w126 ⟨v323, rfl, ho0, hb, hkp⟩
        refine ⟨_, rfl, ?_⟩
        have n0_ := Aside0.mk (blk_kept (by (with_reducible repeat (first | refine blk_drewN ?_ _ | refine blk_drew ?_ | refine blk_alloc ?_ _)); exact BK255.out) hkp (fun hs_ => (fun e_ => (Kd.R_ne HO321.out BK255.out (by decide)) e_) hs_))
        have n1_ := Aside0.mk (Kd.R_mono (ok' := fun k_ => True) ho0 (fun k_ hk_ => trivial))
        have n2_ := Aside0.mk (hb)
        clear BK255
        clear HB
        clear HO321
        have BK255 := n0_
        have HO324 := n1_
        have HB := n2_
        clear n0_ n1_ n2_
        (try clear hb)
        (try clear hkp)
        (try clear ho0)
        refine hK.out _ _ (cellsK14 BK255.out) (fun hHeld => ?_)
        clear hK K
        refine norm_ (a' := ?_) ?_ ?_
        rotate_left
        ·show Act.put _ (some 84) _ = _
         simp only [Act.put, sAa, sBb, sCc, i64_w, i32_w]
         rfl
        refine pure_ (i := 13) (N := some 4) (v := ?_) (a' := ?_) #[true, true, true, true, true, true, true, true, true, true, true, true, true, true] rfl rfl (any_of HT_.out (by kernel_rfl)) (fun _ _ _ h => h) (Or.inl ⟨by rfl, ?_⟩) ?_ ?_
        rotate_left
        ·intro w'
         go_simp
         with_reducible rfl
        rotate_left
        ·simp only [Act.put, sAa, sBb, sCc, i64_w, i32_w]
         rfl
        refine done_ (done_of HT_.out (by kernel_rfl)) ?_
        try go_wp2
        have n0_ := Aside0.mk (Kd.R_drew HO324.out)
        have n1_ := Aside0.mk (blk_drew BK255.out)
        have n2_ := Aside0.mk (below_drew1 HB.out)
        clear HO324
        clear BK255
        clear HB
        have HO324 := n0_
        have BK255 := n1_
        have HB := n2_
        clear n0_ n1_ n2_
        obtain ⟨Ao128, co128, eo128⟩ := Kd.R_slice HO324.out
        (first | subst eo128 | (injection eo128 with f1_ f2_ f3_; have f4_ := f1_.symm; have f5_ := f3_.symm; clear f1_ f2_ f3_; subst f4_; subst f5_))
        refine start_ (n := 9) (S := fun w' => w'.cell? ⟨gb255, 0, none⟩ = some (.int .i64 a0_0) ∧ w'.cell? ⟨gb255, 1, none⟩ = some (.int .i64 a0_1) ∧ w'.cell? ⟨gb255, 2, none⟩ = some (.int .i64 a0_2) ∧ w'.cell? ⟨gb255, 3, none⟩ = some (.int .i64 a0_3) ∧ w'.cell? ⟨gb255, 4, none⟩ = some (.int .i64 a0_4) ∧ w'.cell? ⟨gb255, 5, none⟩ = some (.int .i64 a0_5) ∧ w'.cell? ⟨gb255, 6, none⟩ = some (.bool a0_6) ∧ w'.cell? ⟨gb255, 7, none⟩ = some (.int .i64 a0_7) ∧ w'.cell? ⟨gb255, 8, none⟩ = some (.int .i64 a0_8) ∧ w'.cell? ⟨gb255, 9, none⟩ = some (.slice A0_9 l0_9.length c0_9) ∧ w'.cell? ⟨gb255, 10, none⟩ = some (.int .i64 a0_10) ∧ w'.cell? ⟨gb255, 11, none⟩ = some (.int .i64 a0_11) ∧ w'.cell? ⟨gb255, 12, none⟩ = some (.int .i64 a0_12) ∧ w'.cell? ⟨gb255, 13, none⟩ = some (.slice A0_13 l0_13.length c0_13)) (ds := []) #[false, false, false, false, false, false, false, false, false] (by kernel_rfl) rfl rfl (cellsK14 BK255.out) (fun hHeld => ?_); refine with_tabW drumlineref1_Encode.tab17 drumlineref1_Encode.bits17 (fun HT_ HW_ => ?_)
        generalize w126.drew = w127 at HO324 BK255 HB hHeld ⊢
        refine pure_ (i := 0) (N := some 85) (v := ?_) (a' := ?_) #[true, false, false, false, false, false, false, false, false] rfl rfl (any_of HT_.out (by kernel_rfl)) (fun _ _ _ h => h) (Or.inl ⟨by rfl, ?_⟩) ?_ ?_
        rotate_left
        ·intro w'
         go_simp
         with_reducible rfl
        rotate_left
        ·simp only [Act.put, sAa, sBb, sCc, i64_w, i32_w]
         rfl
        refine pure_ (i := 1) (N := some 86) (v := ?_) (a' := ?_) #[true, true, false, false, false, false, false, false, false] rfl rfl (any_of HT_.out (by kernel_rfl)) (fun _ _ _ h => h) (Or.inl ⟨by rfl, ?_⟩) ?_ ?_
        rotate_left
        ·intro w'
         go_simp
         with_reducible rfl
        rotate_left
        ·simp only [Act.put, sAa, sBb, sCc, i64_w, i32_w]
         rfl
        refine pure_ (i := 5) (N := some 90) (v := ?_) (a' := ?_) #[true, true, false, false, false, true, false, false, false] rfl rfl (any_of HT_.out (by kernel_rfl)) (fun _ _ _ h => h) (Or.inl ⟨by rfl, ?_⟩) ?_ ?_
        rotate_left
        ·intro w'
         go_simp
         with_reducible rfl
        rotate_left
        ·simp only [Act.put, sAa, sBb, sCc, i64_w, i32_w]
         rfl
        refine take_ (i := 2) (N := some 87) (v := ?_) (a' := ?_) #[true, true, true, false, false, true, false, false, false] rfl rfl (take_ofW HT_.out HW_.out (by kernel_rfl)) (fun _ _ _ h => h) (Or.inl ⟨by rfl, ?_⟩) hHeld ?_ ?_
        rotate_left
        ·rintro w' ⟨s0, s1, s2, s3, s4, s5, s6, s7, s8, s9, s10, s11, s12, s13⟩
         go_simp
         with_reducible rfl
        rotate_left
        ·simp only [Act.put, sAa, sBb, sCc, i64_w, i32_w]
         rfl
        refine pure_ (i := 3) (N := some 88) (v := ?_) (a' := ?_) #[true, true, true, true, false, true, false, false, false] rfl rfl (any_of HT_.out (by kernel_rfl)) (fun _ _ _ h => h) (Or.inl ⟨by rfl, ?_⟩) ?_ ?_
        rotate_left
        ·intro w'
         go_simp
         with_reducible rfl
        rotate_left
        ·simp only [Act.put, sAa, sBb, sCc, i64_w, i32_w]
         rfl
        refine take_ (i := 6) (N := some 91) (v := ?_) (a' := ?_) #[true, true, true, true, false, true, true, false, false] rfl rfl (take_ofW HT_.out HW_.out (by kernel_rfl)) (fun _ _ _ h => h) (Or.inl ⟨by rfl, ?_⟩) hHeld ?_ ?_
        rotate_left
        ·rintro w' ⟨s0, s1, s2, s3, s4, s5, s6, s7, s8, s9, s10, s11, s12, s13⟩
         go_simp
         with_reducible rfl
        rotate_left
        ·simp only [Act.put, sAa, sBb, sCc, i64_w, i32_w]
         rfl
        refine one_ (i := 4) (N := some 89) #[true, true, true, true, true, true, true, false, false] rfl rfl (one_of HT_.out (by kernel_rfl)) (by decide) (fun K hK => ?_)
        refine goes_ Tryd.func25 (by kernel_rfl) rfl #[.slice Ao128 t322.length co128, .int .i64 (l0_13.length : Int), .int .i64 1] (by rfl) rfl rfl (by (try simp only [List.map_toArray, List.map_cons, List.map_nil]); first | done | rfl | (simp only [List.length_drop, List.length_take]; rfl)) ?_
        with_reducible refine (drumlineref1_put.calls k (fun k_ => some k_ = (.slice Ao128 t322.length co128 : Value).ownBlock) (.slice Ao128 t322.length co128) t322 (l0_13.length : Int) 1 t325 w _ ?side1 ?side2 A105.out).mono ?_
        (case side1 => repeat (first | (with_reducible first | exact HB.out | apply below_alloc | apply pw_below_drewN | apply below_drew1 | refine below_set ?_ GE255.out) | exact HB.out))
        (case side2 => exact Kd.R_tight rfl HO324.out)
        rintro e w129 ⟨v326, rfl, ho0, hb, hkp⟩
        refine ⟨_, rfl, ?_⟩
        have n0_ := Aside0.mk (blk_kept (by (with_reducible repeat (first | refine blk_drewN ?_ _ | refine blk_drew ?_ | refine blk_alloc ?_ _)); exact BK255.out) hkp (fun hs_ => (fun e_ => (Kd.R_ne HO324.out BK255.out (by decide)) e_) hs_))
        have n1_ := Aside0.mk (Kd.R_mono (ok' := fun k_ => True) ho0 (fun k_ hk_ => trivial))
        have n2_ := Aside0.mk (hb)
        clear BK255
        clear HB
        clear HO324
        have BK255 := n0_
        have HO327 := n1_
        have HB := n2_
        clear n0_ n1_ n2_
        (try clear hb)
        (try clear hkp)
        (try clear ho0)
        refine hK.out _ _ (cellsK14 BK255.out) (fun hHeld => ?_)
        clear hK K
        refine norm_ (a' := ?_) ?_ ?_
        rotate_left
        ·show Act.put _ (some 89) _ = _
         simp only [Act.put, sAa, sBb, sCc, i64_w, i32_w]
         rfl
        refine one_ (i := 7) (N := some 92) #[true, true, true, true, true, true, true, true, false] rfl rfl (one_of HT_.out (by kernel_rfl)) (by decide) (fun K hK => ?_)
        refine Kd.R_append_rows_step (Kd.int .u8) (w0 := w) w.heap.size (by rfl) (.tmp 89) (.tmp 91) 23 5 (.int .u8 0) 1 rfl Tryd.underlying23 info5 rfl (by decide) (by omega) v326 t325 l0_13 _ _ _ (fun _ => True) (fun _ => False) rfl rfl ?aO ?aR (fun _ _ h => h) (fun _ h => h.elim) ?aF ?aB ?aS ?aL ?_
        (case aR => repeat (first | exact (Kd.C_below HR0_13.out HB.out) | (with_reducible refine Kd.C_alloc ?_ _) | (with_reducible refine Kd.C_drewN ?_ _) | (with_reducible refine Kd.C_drew ?_)))
        (case aB => exact (by repeat (first | (with_reducible first | exact HB.out | apply below_alloc | apply pw_below_drewN | apply below_drew1 | refine below_set ?_ GE255.out) | exact HB.out)))
        (case aF => exact (fun _ _ => trivial))
        (case aO => exact (by (with_reducible repeat (first | apply Kd.R_alloc | apply Kd.R_drewN | apply Kd.R_drew)); exact HO327.out))
        (case aS => exact (below_size (by repeat (first | (with_reducible first | exact HB.out | apply below_alloc | apply pw_below_drewN | apply below_drew1 | refine below_set ?_ GE255.out) | exact HB.out))))
        (case aL => have := LMc106.out; omega)
        intro v329 w130 ho hb hg hat
        rw [← Ny328.out] at ho
        have n0_ := Aside0.mk (blk_grown (g := gb255) (by (with_reducible repeat (first | refine blk_drewN ?_ _ | refine blk_drew ?_ | refine blk_alloc ?_ _)); exact BK255.out) hg (Kd.R_ne HO327.out BK255.out (by decide)))
        have n1_ := Aside0.mk (hb)
        have n2_ := Aside0.mk (ho)
        clear BK255
        clear HB
        clear HO327
        have BK255 := n0_
        have HB := n1_
        have HO330 := n2_
        clear n0_ n1_ n2_
        clear ho hb hg hat
        refine hK.out _ _ (cellsK14 BK255.out) (fun hHeld => ?_)
        clear hK K
        refine norm_ (a' := ?_) ?_ ?_
        rotate_left
        ·show Act.put _ (some 92) _ = _
         simp only [Act.put, sAa, sBb, sCc, i64_w, i32_w]
         rfl
        refine pure_ (i := 8) (N := some 4) (v := ?_) (a' := ?_) #[true, true, true, true, true, true, true, true, true] rfl rfl (any_of HT_.out (by kernel_rfl)) (fun _ _ _ h => h) (Or.inl ⟨by rfl, ?_⟩) ?_ ?_
        rotate_left
        ·intro w'
         go_simp
         with_reducible rfl
        rotate_left
        ·simp only [Act.put, sAa, sBb, sCc, i64_w, i32_w]
         rfl
        refine done_ (done_of HT_.out (by kernel_rfl)) ?_
        obtain ⟨Ao131, co131, eo131⟩ := Kd.R_slice HO330.out
        subst eo131
        try go_wp2_with (first | ((with_reducible refine gate_callee (f := 18) rfl ?_); refine goesL_ (some 94) rfl rfl Tryd.func18 (by kernel_rfl) rfl #[.slice Ao131 y328.length co131] rfl (by (try simp only [List.map_toArray, List.map_cons, List.map_nil]); first | done | rfl | (simp only [List.length_drop, List.length_take]; rfl)) ?_; (with_reducible refine (drumlineref1_Seal.calls k _ _ y328 t331 _ ?side1 ?side2 A107.out).mono ?_); (case side1 => repeat (first | exact (Kd.R_reads' HO330.out).2.2 | (with_reducible refine Kd.C_alloc ?_ _) | (with_reducible refine Kd.C_drewN ?_ _) | (with_reducible refine Kd.C_drew ?_))); (case side2 => exact (Kd.R_reads' HO330.out).2.1); rintro e w132 ⟨v332, rfl, ho0, hb⟩; refine ⟨_, rfl, ?_⟩; have n0_ := Aside0.mk (Kd.R_elder' (by (with_reducible repeat (first | apply Kd.R_alloc | apply Kd.R_drewN | apply Kd.R_drew)); exact HO330.out) (Kd.R_base ho0) hb); have n1_ := Aside0.mk (Kd.R_lower (Kd.R_new' ho0 (Kd.R_lt (by (with_reducible repeat (first | apply Kd.R_alloc | apply Kd.R_drewN | apply Kd.R_drew)); exact HO330.out))) (below_size (by repeat (first | (with_reducible first | exact HB.out | apply below_alloc | apply pw_below_drewN | apply below_drew1 | refine below_set ?_ GE255.out) | exact HB.out)))); have n2_ := Aside0.mk (blk_below (g := gb255) (by (with_reducible repeat (first | refine blk_drewN ?_ _ | refine blk_drew ?_ | refine blk_alloc ?_ _)); exact BK255.out) hb); have n3_ := Aside0.mk (below_step (by repeat (first | (with_reducible first | exact HB.out | apply below_alloc | apply pw_below_drewN | apply below_drew1 | refine below_set ?_ GE255.out) | exact HB.out)) hb); clear HO330; clear BK255; clear HB; have HO330 := n0_; have HO333 := n1_; have BK255 := n2_; have HB := n3_; clear n0_ n1_ n2_ n3_; (try clear hb); (try clear hb2); (try clear hk); (try clear hi); (try clear ho0)))
        go_ret2
        exact ⟨_, by first | rfl | (simp [errW_none, errW_some] <;> rfl) | (simp [*, errW_none, errW_some] <;> rfl), by (with_reducible repeat (first | apply Kd.R_alloc | apply Kd.R_drewN | apply Kd.R_drew)); exact Kd.R_mono HO333.out (fun _ hk => trivial), by repeat (first | (with_reducible first | exact HB.out | apply below_alloc | apply pw_below_drewN | apply below_drew1 | refine below_set ?_ GE255.out) | exact HB.out)⟩
       ·rw [if_neg c106] at H
        exact absurd H (by simp)
      ·rw [if_neg c100] at H
       have c100b0 : (a0_0 == 5) = false := beq_eq_false_iff_ne.mpr c100
       have c100b1 : (a0_0 != 5) = true := bne_iff_ne.mpr c100
       replace H := Option.bind_eq_some_iff.mp H
       obtain ⟨t334, A1330, H⟩ := H
       replace H : (some (t334, 0)) = some (r1, r2) := H
       have A133 := Aside0.mk A1330
       clear A1330
       simp only [Option.some.injEq, Prod.mk.injEq] at H
       obtain ⟨rfl, rfl⟩ := H
       go_enter Tryd.func11, Tryd.ntmps11
       try go_wp2_with (first | ((with_reducible refine gate_dst (N := 1) rfl ?_); refine box_event ?hg (N := 1) ?hd (cs := #[.int .i64 a0_0, .int .i64 a0_1, .int .i64 a0_2, .int .i64 a0_3, .int .i64 a0_4, .int .i64 a0_5, .bool a0_6, .int .i64 a0_7, .int .i64 a0_8, .slice A0_9 l0_9.length c0_9, .int .i64 a0_10, .int .i64 a0_11, .int .i64 a0_12, .slice A0_13 l0_13.length c0_13]) (t := 25) ?hr ?_; (case hd => rfl); (case hg => rfl); (case hr => first | (go_simp; done) | (go_simp; rfl)); intro gb255 hg w134 hbox hb; have n0_ := Aside0.mk (below_step (by repeat (first | (with_reducible first | exact HB.out | apply below_alloc | apply pw_below_drewN | apply below_drew1) | exact HB.out)) hb); have n1_ := Aside0.mk (hbox); have n2_ := Aside0.mk ((by rw [hg]; exact (below_size (by repeat (first | (with_reducible first | exact HB.out | apply below_alloc | apply pw_below_drewN | apply below_drew1) | exact HB.out))) : w.heap.size ≤ gb255)); have n3_ := Aside0.mk ((by rw [hg]; exact (below_size (by repeat (first | (with_reducible first | exact HB.out | apply below_alloc | apply pw_below_drewN | apply below_drew1) | exact HB.out))) : w.heap.size ≤ gb255)); clear HB; have HB := n0_; have BK255 := n1_; have GW255 := n2_; have GE255 := n3_; clear n0_ n1_ n2_ n3_; clear hb hbox hg; obtain ⟨hcz135_0, hcz135_1, hcz135_2, hcz135_3, hcz135_4, hcz135_5, hcz135_6, hcz135_7, hcz135_8, hcz135_9, hcz135_10, hcz135_11, hcz135_12, hcz135_13⟩ := cellsK14 BK255.out; obtain ⟨hfz135_0, hfz135_1, hfz135_2, hfz135_3, hfz135_4, hfz135_5, hfz135_6, hfz135_7, hfz135_8, hfz135_9, hfz135_10, hfz135_11, hfz135_12, hfz135_13⟩ := frozK14 BK255.out) | ((with_reducible refine gate_callee (f := 13) rfl ?_); refine goesL_ (some 8) rfl rfl Tryd.func13 (by kernel_rfl) rfl #[.agg #[.int .i64 a0_0, .int .i64 a0_1, .int .i64 a0_2, .int .i64 a0_3, .int .i64 a0_4, .int .i64 a0_5, .bool a0_6, .int .i64 a0_7, .int .i64 a0_8, .slice A0_9 l0_9.length c0_9, .int .i64 a0_10, .int .i64 a0_11, .int .i64 a0_12, .slice A0_13 l0_13.length c0_13]] rfl (by (try simp only [List.map_toArray, List.map_cons, List.map_nil]); first | done | rfl | (simp only [List.length_drop, List.length_take]; rfl)) ?_; (with_reducible refine (drumlineref1_May.calls k a0_0 a0_1 a0_2 a0_3 a0_4 a0_5 a0_6 a0_7 a0_8 _ _ l0_9 a0_10 a0_11 a0_12 _ _ l0_13 true _ ?side1 ?side2 ?side3 ?side4 A2.out).mono ?_); (case side1 => repeat (first | exact (Kd.C_below HR0_9.out HB.out) | (with_reducible refine Kd.C_alloc ?_ _) | (with_reducible refine Kd.C_drewN ?_ _) | (with_reducible refine Kd.C_drew ?_))); (case side2 => exact HC0_9.out); (case side3 => repeat (first | exact (Kd.C_below HR0_13.out HB.out) | (with_reducible refine Kd.C_alloc ?_ _) | (with_reducible refine Kd.C_drewN ?_ _) | (with_reducible refine Kd.C_drew ?_))); (case side4 => exact HC0_13.out); rintro e w136 ⟨rfl, hb⟩; refine ⟨_, rfl, ?_⟩; have n0_ := Aside0.mk (blk_below (g := gb255) (by (with_reducible repeat (first | refine blk_drewN ?_ _ | refine blk_drew ?_ | refine blk_alloc ?_ _)); exact BK255.out) hb); have n1_ := Aside0.mk (below_step (by repeat (first | (with_reducible first | exact HB.out | apply below_alloc | apply pw_below_drewN | apply below_drew1 | refine below_set ?_ GE255.out) | exact HB.out)) hb); clear BK255; clear HB; have BK255 := n0_; have HB := n1_; clear n0_ n1_; (try clear hb); (try clear hb2); (try clear hk); (try clear hi)))
       have n0_ := Aside0.mk (blk_drew BK255.out)
       have n1_ := Aside0.mk (below_drew1 HB.out)
       clear BK255
       clear HB
       have BK255 := n0_
       have HB := n1_
       clear n0_ n1_
       refine start_ (n := 10) (S := fun w' => w'.cell? ⟨gb255, 0, none⟩ = some (.int .i64 a0_0) ∧ w'.cell? ⟨gb255, 1, none⟩ = some (.int .i64 a0_1) ∧ w'.cell? ⟨gb255, 2, none⟩ = some (.int .i64 a0_2) ∧ w'.cell? ⟨gb255, 3, none⟩ = some (.int .i64 a0_3) ∧ w'.cell? ⟨gb255, 4, none⟩ = some (.int .i64 a0_4) ∧ w'.cell? ⟨gb255, 5, none⟩ = some (.int .i64 a0_5) ∧ w'.cell? ⟨gb255, 6, none⟩ = some (.bool a0_6) ∧ w'.cell? ⟨gb255, 7, none⟩ = some (.int .i64 a0_7) ∧ w'.cell? ⟨gb255, 8, none⟩ = some (.int .i64 a0_8) ∧ w'.cell? ⟨gb255, 9, none⟩ = some (.slice A0_9 l0_9.length c0_9) ∧ w'.cell? ⟨gb255, 10, none⟩ = some (.int .i64 a0_10) ∧ w'.cell? ⟨gb255, 11, none⟩ = some (.int .i64 a0_11) ∧ w'.cell? ⟨gb255, 12, none⟩ = some (.int .i64 a0_12) ∧ w'.cell? ⟨gb255, 13, none⟩ = some (.slice A0_13 l0_13.length c0_13)) (ds := []) #[false, false, false, false, false, false, false, false, false, false] (by kernel_rfl) rfl rfl (cellsK14 BK255.out) (fun hHeld => ?_); refine with_tabW drumlineref1_Encode.tab3 drumlineref1_Encode.bits3 (fun HT_ HW_ => ?_)
       generalize w136.drew = w137 at BK255 HB hHeld ⊢
       refine pure_ (i := 0) (N := some 10) (v := ?_) (a' := ?_) #[true, false, false, false, false, false, false, false, false, false] rfl rfl (any_of HT_.out (by kernel_rfl)) (fun _ _ _ h => h) (Or.inl ⟨by rfl, ?_⟩) ?_ ?_
       rotate_left
       ·intro w'
        go_simp
        with_reducible rfl
       rotate_left
       ·simp only [Act.put, sAa, sBb, sCc, i64_w, i32_w]
        rfl
       refine pure_ (i := 3) (N := some 13) (v := ?_) (a' := ?_) #[true, false, false, true, false, false, false, false, false, false] rfl rfl (any_of HT_.out (by kernel_rfl)) (fun _ _ _ h => h) (Or.inl ⟨by rfl, ?_⟩) ?_ ?_
       rotate_left
       ·intro w'
        go_simp
        with_reducible rfl
       rotate_left
       ·simp only [Act.put, sAa, sBb, sCc, i64_w, i32_w]
        rfl
       refine pure_ (i := 6) (N := some 16) (v := ?_) (a' := ?_) #[true, false, false, true, false, false, true, false, false, false] rfl rfl (any_of HT_.out (by kernel_rfl)) (fun _ _ _ h => h) (Or.inl ⟨by rfl, ?_⟩) ?_ ?_
       rotate_left
       ·intro w'
        go_simp
        with_reducible rfl
       rotate_left
       ·simp only [Act.put, sAa, sBb, sCc, i64_w, i32_w]
        rfl
       refine take_ (i := 1) (N := some 11) (v := ?_) (a' := ?_) #[true, true, false, true, false, false, true, false, false, false] rfl rfl (take_ofW HT_.out HW_.out (by kernel_rfl)) (fun _ _ _ h => h) (Or.inl ⟨by rfl, ?_⟩) hHeld ?_ ?_
       rotate_left
       ·rintro w' ⟨s0, s1, s2, s3, s4, s5, s6, s7, s8, s9, s10, s11, s12, s13⟩
        go_simp
        with_reducible rfl
       rotate_left
       ·simp only [Act.put, sAa, sBb, sCc, i64_w, i32_w]
        rfl
       refine take_ (i := 4) (N := some 14) (v := ?_) (a' := ?_) #[true, true, false, true, true, false, true, false, false, false] rfl rfl (take_ofW HT_.out HW_.out (by kernel_rfl)) (fun _ _ _ h => h) (Or.inl ⟨by rfl, ?_⟩) hHeld ?_ ?_
       rotate_left
       ·rintro w' ⟨s0, s1, s2, s3, s4, s5, s6, s7, s8, s9, s10, s11, s12, s13⟩
        go_simp
        with_reducible rfl
       rotate_left
       ·simp only [Act.put, sAa, sBb, sCc, i64_w, i32_w]
        rfl
       refine take_ (i := 7) (N := some 17) (v := ?_) (a' := ?_) #[true, true, false, true, true, false, true, true, false, false] rfl rfl (take_ofW HT_.out HW_.out (by kernel_rfl)) (fun _ _ _ h => h) (Or.inl ⟨by rfl, ?_⟩) hHeld ?_ ?_
       rotate_left
       ·rintro w' ⟨s0, s1, s2, s3, s4, s5, s6, s7, s8, s9, s10, s11, s12, s13⟩
        go_simp
        with_reducible rfl
       rotate_left
       ·simp only [Act.put, sAa, sBb, sCc, i64_w, i32_w]
        rfl
       refine one_ (i := 2) (N := some 12) #[true, true, true, true, true, false, true, true, false, false] rfl rfl (one_of HT_.out (by kernel_rfl)) (by decide) (fun K hK => ?_)
       refine goes_ Tryd.func25 (by kernel_rfl) rfl #[.slice none 0 0, .int .i64 a0_0, .int .i64 1] (by rfl) rfl rfl (by (try simp only [List.map_toArray, List.map_cons, List.map_nil]); first | done | rfl | (simp only [List.length_drop, List.length_take]; rfl)) ?_
       refine (drumlineref1_put.calls k (fun k_ => some k_ = (.slice none 0 0 : Value).ownBlock) (.slice none 0 0) ([] : List Int) a0_0 1 t257 w _ ?side1 ?side2 A4.out).mono ?_
       (case side1 => repeat (first | (with_reducible first | exact HB.out | apply below_alloc | apply pw_below_drewN | apply below_drew1 | refine below_set ?_ GE255.out) | exact HB.out))
       (case side2 => exact Kd.R_nil _ _ _ _ _)
       rintro e w138 ⟨v258, rfl, ho0, hb, hkp⟩
       refine ⟨_, rfl, ?_⟩
       have n0_ := Aside0.mk (blk_kept (by (with_reducible repeat (first | refine blk_drewN ?_ _ | refine blk_drew ?_ | refine blk_alloc ?_ _)); exact BK255.out) hkp (fun hs_ => (fun e_ => by simp [Value.ownBlock] at e_) hs_))
       have n1_ := Aside0.mk (Kd.R_mono (ok' := fun k_ => True) ho0 (fun k_ hk_ => trivial))
       have n2_ := Aside0.mk (hb)
       clear BK255
       clear HB
       have BK255 := n0_
       have HO259 := n1_
       have HB := n2_
       clear n0_ n1_ n2_
       (try clear hb)
       (try clear hkp)
       (try clear ho0)
       obtain ⟨Ao139, co139, eo139⟩ := Kd.R_slice HO259.out
       (first | subst eo139 | (injection eo139 with f1_ f2_ f3_; have f4_ := f1_.symm; have f5_ := f3_.symm; clear f1_ f2_ f3_; subst f4_; subst f5_))
       refine hK.out _ _ (cellsK14 BK255.out) (fun hHeld => ?_)
       clear hK K
       refine norm_ (a' := ?_) ?_ ?_
       rotate_left
       ·show Act.put _ (some 12) _ = _
        simp only [Act.put, sAa, sBb, sCc, i64_w, i32_w]
        rfl
       refine one_ (i := 5) (N := some 15) #[true, true, true, true, true, true, true, true, false, false] rfl rfl (one_of HT_.out (by kernel_rfl)) (by decide) (fun K hK => ?_)
       refine goes_ Tryd.func25 (by kernel_rfl) rfl #[.slice Ao139 t257.length co139, .int .i64 a0_1, .int .i64 1] (by rfl) rfl rfl (by (try simp only [List.map_toArray, List.map_cons, List.map_nil]); first | done | rfl | (simp only [List.length_drop, List.length_take]; rfl)) ?_
       with_reducible refine (drumlineref1_put.calls k (fun k_ => some k_ = (.slice Ao139 t257.length co139 : Value).ownBlock) (.slice Ao139 t257.length co139) t257 a0_1 1 t260 w _ ?side1 ?side2 A5.out).mono ?_
       (case side1 => repeat (first | (with_reducible first | exact HB.out | apply below_alloc | apply pw_below_drewN | apply below_drew1 | refine below_set ?_ GE255.out) | exact HB.out))
       (case side2 => exact Kd.R_tight rfl HO259.out)
       rintro e w140 ⟨v261, rfl, ho0, hb, hkp⟩
       refine ⟨_, rfl, ?_⟩
       have n0_ := Aside0.mk (blk_kept (by (with_reducible repeat (first | refine blk_drewN ?_ _ | refine blk_drew ?_ | refine blk_alloc ?_ _)); exact BK255.out) hkp (fun hs_ => (fun e_ => (Kd.R_ne HO259.out BK255.out (by decide)) e_) hs_))
       have n1_ := Aside0.mk (Kd.R_mono (ok' := fun k_ => True) ho0 (fun k_ hk_ => trivial))
       have n2_ := Aside0.mk (hb)
       clear BK255
       clear HB
       clear HO259
       have BK255 := n0_
       have HO262 := n1_
       have HB := n2_
       clear n0_ n1_ n2_
       (try clear hb)
       (try clear hkp)
       (try clear ho0)
       obtain ⟨Ao141, co141, eo141⟩ := Kd.R_slice HO262.out
       (first | subst eo141 | (injection eo141 with f1_ f2_ f3_; have f4_ := f1_.symm; have f5_ := f3_.symm; clear f1_ f2_ f3_; subst f4_; subst f5_))
       refine hK.out _ _ (cellsK14 BK255.out) (fun hHeld => ?_)
       clear hK K
       refine norm_ (a' := ?_) ?_ ?_
       rotate_left
       ·show Act.put _ (some 15) _ = _
        simp only [Act.put, sAa, sBb, sCc, i64_w, i32_w]
        rfl
       refine one_ (i := 8) (N := some 18) #[true, true, true, true, true, true, true, true, true, false] rfl rfl (one_of HT_.out (by kernel_rfl)) (by decide) (fun K hK => ?_)
       refine goes_ Tryd.func25 (by kernel_rfl) rfl #[.slice Ao141 t260.length co141, .int .i64 a0_2, .int .i64 1] (by rfl) rfl rfl (by (try simp only [List.map_toArray, List.map_cons, List.map_nil]); first | done | rfl | (simp only [List.length_drop, List.length_take]; rfl)) ?_
       with_reducible refine (drumlineref1_put.calls k (fun k_ => some k_ = (.slice Ao141 t260.length co141 : Value).ownBlock) (.slice Ao141 t260.length co141) t260 a0_2 1 t263 w _ ?side1 ?side2 A6.out).mono ?_
       (case side1 => repeat (first | (with_reducible first | exact HB.out | apply below_alloc | apply pw_below_drewN | apply below_drew1 | refine below_set ?_ GE255.out) | exact HB.out))
       (case side2 => exact Kd.R_tight rfl HO262.out)
       rintro e w142 ⟨v264, rfl, ho0, hb, hkp⟩
       refine ⟨_, rfl, ?_⟩
       have n0_ := Aside0.mk (blk_kept (by (with_reducible repeat (first | refine blk_drewN ?_ _ | refine blk_drew ?_ | refine blk_alloc ?_ _)); exact BK255.out) hkp (fun hs_ => (fun e_ => (Kd.R_ne HO262.out BK255.out (by decide)) e_) hs_))
       have n1_ := Aside0.mk (Kd.R_mono (ok' := fun k_ => True) ho0 (fun k_ hk_ => trivial))
       have n2_ := Aside0.mk (hb)
       clear BK255
       clear HB
       clear HO262
       have BK255 := n0_
       have HO265 := n1_
       have HB := n2_
       clear n0_ n1_ n2_
       (try clear hb)
       (try clear hkp)
       (try clear ho0)
       refine hK.out _ _ (cellsK14 BK255.out) (fun hHeld => ?_)
       clear hK K
       refine norm_ (a' := ?_) ?_ ?_
       rotate_left
       ·show Act.put _ (some 18) _ = _
        simp only [Act.put, sAa, sBb, sCc, i64_w, i32_w]
        rfl
       refine pure_ (i := 9) (N := some 4) (v := ?_) (a' := ?_) #[true, true, true, true, true, true, true, true, true, true] rfl rfl (any_of HT_.out (by kernel_rfl)) (fun _ _ _ h => h) (Or.inl ⟨by rfl, ?_⟩) ?_ ?_
       rotate_left
       ·intro w'
        go_simp
        with_reducible rfl
       rotate_left
       ·simp only [Act.put, sAa, sBb, sCc, i64_w, i32_w]
        rfl
       refine done_ (done_of HT_.out (by kernel_rfl)) ?_
       obtain ⟨hcz143_0, hcz143_1, hcz143_2, hcz143_3, hcz143_4, hcz143_5, hcz143_6, hcz143_7, hcz143_8, hcz143_9, hcz143_10, hcz143_11, hcz143_12, hcz143_13⟩ := cellsK14 BK255.out
       obtain ⟨hfz143_0, hfz143_1, hfz143_2, hfz143_3, hfz143_4, hfz143_5, hfz143_6, hfz143_7, hfz143_8, hfz143_9, hfz143_10, hfz143_11, hfz143_12, hfz143_13⟩ := frozK14 BK255.out
       obtain ⟨Ao144, co144, eo144⟩ := Kd.R_slice HO265.out
       subst eo144
       try go_wp2_with (first | ((with_reducible refine gate_callee (f := 18) rfl ?_); refine goesL_ (some 94) rfl rfl Tryd.func18 (by kernel_rfl) rfl #[.slice Ao144 t263.length co144] rfl (by (try simp only [List.map_toArray, List.map_cons, List.map_nil]); first | done | rfl | (simp only [List.length_drop, List.length_take]; rfl)) ?_; (with_reducible refine (drumlineref1_Seal.calls k _ _ t263 t334 _ ?side1 ?side2 A133.out).mono ?_); (case side1 => repeat (first | exact (Kd.R_reads' HO265.out).2.2 | (with_reducible refine Kd.C_alloc ?_ _) | (with_reducible refine Kd.C_drewN ?_ _) | (with_reducible refine Kd.C_drew ?_))); (case side2 => exact (Kd.R_reads' HO265.out).2.1); rintro e w145 ⟨v335, rfl, ho0, hb⟩; refine ⟨_, rfl, ?_⟩; have n0_ := Aside0.mk (Kd.R_elder' (by (with_reducible repeat (first | apply Kd.R_alloc | apply Kd.R_drewN | apply Kd.R_drew)); exact HO265.out) (Kd.R_base ho0) hb); have n1_ := Aside0.mk (Kd.R_lower (Kd.R_new' ho0 (Kd.R_lt (by (with_reducible repeat (first | apply Kd.R_alloc | apply Kd.R_drewN | apply Kd.R_drew)); exact HO265.out))) (below_size (by repeat (first | (with_reducible first | exact HB.out | apply below_alloc | apply pw_below_drewN | apply below_drew1 | refine below_set ?_ GE255.out) | exact HB.out)))); have n2_ := Aside0.mk (blk_below (g := gb255) (by (with_reducible repeat (first | refine blk_drewN ?_ _ | refine blk_drew ?_ | refine blk_alloc ?_ _)); exact BK255.out) hb); have n3_ := Aside0.mk (below_step (by repeat (first | (with_reducible first | exact HB.out | apply below_alloc | apply pw_below_drewN | apply below_drew1 | refine below_set ?_ GE255.out) | exact HB.out)) hb); clear HO265; clear BK255; clear HB; have HO265 := n0_; have HO336 := n1_; have BK255 := n2_; have HB := n3_; clear n0_ n1_ n2_ n3_; (try clear hb); (try clear hb2); (try clear hk); (try clear hi); (try clear ho0)))
       go_ret2
       exact ⟨_, by first | rfl | (simp [errW_none, errW_some] <;> rfl) | (simp [*, errW_none, errW_some] <;> rfl), by (with_reducible repeat (first | apply Kd.R_alloc | apply Kd.R_drewN | apply Kd.R_drew)); exact Kd.R_mono HO336.out (fun _ hk => trivial), by repeat (first | (with_reducible first | exact HB.out | apply below_alloc | apply pw_below_drewN | apply below_drew1 | refine below_set ?_ GE255.out) | exact HB.out)⟩
 ·replace c3 := Bool.eq_false_iff.mpr c3
  subst c3
  have H1 : (some (([] : List Int), 1)) = some (r1, r2) := by rw [if_neg (show ¬ (false = true) by decide)] at H; exact H
  clear H
  have H := H1
  clear H1
  simp only [Option.some.injEq, Prod.mk.injEq] at H
  obtain ⟨rfl, rfl⟩ := H
  go_enter Tryd.func11, Tryd.ntmps11
  go_wp2_with (first | ((with_reducible refine gate_dst (N := 1) rfl ?_); refine box_event ?hg (N := 1) ?hd (cs := #[.int .i64 a0_0, .int .i64 a0_1, .int .i64 a0_2, .int .i64 a0_3, .int .i64 a0_4, .int .i64 a0_5, .bool a0_6, .int .i64 a0_7, .int .i64 a0_8, .slice A0_9 l0_9.length c0_9, .int .i64 a0_10, .int .i64 a0_11, .int .i64 a0_12, .slice A0_13 l0_13.length c0_13]) (t := 25) ?hr ?_; (case hd => rfl); (case hg => rfl); (case hr => first | (go_simp; done) | (go_simp; rfl)); intro gb255 hg w146 hbox hb; have n0_ := Aside0.mk (below_step (by repeat (first | (with_reducible first | exact HB.out | apply below_alloc | apply pw_below_drewN | apply below_drew1) | exact HB.out)) hb); have n1_ := Aside0.mk (hbox); have n2_ := Aside0.mk ((by rw [hg]; exact (below_size (by repeat (first | (with_reducible first | exact HB.out | apply below_alloc | apply pw_below_drewN | apply below_drew1) | exact HB.out))) : w.heap.size ≤ gb255)); have n3_ := Aside0.mk ((by rw [hg]; exact (below_size (by repeat (first | (with_reducible first | exact HB.out | apply below_alloc | apply pw_below_drewN | apply below_drew1) | exact HB.out))) : w.heap.size ≤ gb255)); clear HB; have HB := n0_; have BK255 := n1_; have GW255 := n2_; have GE255 := n3_; clear n0_ n1_ n2_ n3_; clear hb hbox hg; obtain ⟨hcz147_0, hcz147_1, hcz147_2, hcz147_3, hcz147_4, hcz147_5, hcz147_6, hcz147_7, hcz147_8, hcz147_9, hcz147_10, hcz147_11, hcz147_12, hcz147_13⟩ := cellsK14 BK255.out; obtain ⟨hfz147_0, hfz147_1, hfz147_2, hfz147_3, hfz147_4, hfz147_5, hfz147_6, hfz147_7, hfz147_8, hfz147_9, hfz147_10, hfz147_11, hfz147_12, hfz147_13⟩ := frozK14 BK255.out) | ((with_reducible refine gate_callee (f := 13) rfl ?_); refine goesL_ (some 8) rfl rfl Tryd.func13 (by kernel_rfl) rfl #[.agg #[.int .i64 a0_0, .int .i64 a0_1, .int .i64 a0_2, .int .i64 a0_3, .int .i64 a0_4, .int .i64 a0_5, .bool a0_6, .int .i64 a0_7, .int .i64 a0_8, .slice A0_9 l0_9.length c0_9, .int .i64 a0_10, .int .i64 a0_11, .int .i64 a0_12, .slice A0_13 l0_13.length c0_13]] rfl (by (try simp only [List.map_toArray, List.map_cons, List.map_nil]); first | done | rfl | (simp only [List.length_drop, List.length_take]; rfl)) ?_; (with_reducible refine (drumlineref1_May.calls k a0_0 a0_1 a0_2 a0_3 a0_4 a0_5 a0_6 a0_7 a0_8 _ _ l0_9 a0_10 a0_11 a0_12 _ _ l0_13 false _ ?side1 ?side2 ?side3 ?side4 A2.out).mono ?_); (case side1 => repeat (first | exact (Kd.C_below HR0_9.out HB.out) | (with_reducible refine Kd.C_alloc ?_ _) | (with_reducible refine Kd.C_drewN ?_ _) | (with_reducible refine Kd.C_drew ?_))); (case side2 => exact HC0_9.out); (case side3 => repeat (first | exact (Kd.C_below HR0_13.out HB.out) | (with_reducible refine Kd.C_alloc ?_ _) | (with_reducible refine Kd.C_drewN ?_ _) | (with_reducible refine Kd.C_drew ?_))); (case side4 => exact HC0_13.out); rintro e w148 ⟨rfl, hb⟩; refine ⟨_, rfl, ?_⟩; have n0_ := Aside0.mk (blk_below (g := gb255) (by (with_reducible repeat (first | refine blk_drewN ?_ _ | refine blk_drew ?_ | refine blk_alloc ?_ _)); exact BK255.out) hb); have n1_ := Aside0.mk (below_step (by repeat (first | (with_reducible first | exact HB.out | apply below_alloc | apply pw_below_drewN | apply below_drew1 | refine below_set ?_ GE255.out) | exact HB.out)) hb); clear BK255; clear HB; have BK255 := n0_; have HB := n1_; clear n0_ n1_; (try clear hb); (try clear hb2); (try clear hk); (try clear hi)))
  go_ret2
  exact ⟨_, by first | rfl | (simp [errW_none, errW_some] <;> rfl) | (simp [*, errW_none, errW_some] <;> rfl), by first | exact Kd.R_nil _ _ _ _ _ | exact Kd.N_nil _ _ _ _ _ | exact Kd.V_nil _ _ _ _ _ | exact Kd.Q_nil _ _ _ _ _ | exact Kd.S_nil _ _ _ _ _, by repeat (first | (with_reducible first | exact HB.out | apply below_alloc | apply pw_below_drewN | apply below_drew1 | refine below_set ?_ GE255.out) | exact HB.out)⟩
end Go.Proofs.YtaaifdclojkdmaaDoor.MFr
