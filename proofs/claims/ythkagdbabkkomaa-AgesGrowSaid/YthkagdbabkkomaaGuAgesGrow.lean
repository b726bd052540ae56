/- The walk of AgesGrow: what the Go code comes to. -/
import Derived.Test.YthkagdbabkkomaaPAgesGrowx0
import Derived.Test.YthkagdbabkkomaaPAgesGrowx1
namespace Go.Proofs.Ythkagdbabkkomaa.PAgesGrow
open Go.RowKit Go.Proofs.YthkagdbabkkomaaW.PrintWords Go.Proofs.YthkagdbabkkomaaW.PrintLast Go.Proofs.YthkagdbabkkomaaW.PrintMore
attribute [local go_sem] max2_int min2_int max_two min_two max_three min_three max_four min_four   -- for this text's walks alone
set_option linter.unusedVariables false
set_option linter.unusedSimpArgs false

/-! ### drumlinelaw15_AgesGrow: function 3 -/
mutual
def drumlinelaw15_AgesGrow.j0 : Nat → List Int → Int → List (List Int) → Int → Bool → Option (Bool)
  | 0, _, _, _, _, _ => none
  | k + 1, x0, x1, x2, x9, x41 => if x41 = true then ((drumlinelaw15_alive.f k).bind fun t136 => (some t136)) else (drumlinelaw15_AgesGrow.l0 k x0 x1 x2 x9 ([] : List Int) 0)
def drumlinelaw15_AgesGrow.l0 : Nat → List Int → Int → List (List Int) → Int → List Int → Int → Option (Bool)
  | 0, _, _, _, _, _, _ => none
  | k + 1, x0, x1, x2, x9, x10, x11 => if x11 < (x0.length : Int) then (if 0 ≤ x11 then (if x10.length < 17592186044416 then (drumlinelaw15_AgesGrow.l0 k x0 x1 x2 x9 (x10 ++ [mn (wrap64 (rd x0 x11)) x9]) (wrap64 (x11 + 1))) else (none)) else (none)) else (drumlinelaw15_AgesGrow.l1 k x1 x2 x9 x10 ([] : List (List Int)) 0)
def drumlinelaw15_AgesGrow.l1 : Nat → Int → List (List Int) → Int → List Int → List (List Int) → Int → Option (Bool)
  | 0, _, _, _, _, _, _ => none
  | k + 1, x1, x2, x9, x10, x12, x13 => if x13 < (x2.length : Int) then (drumlinelaw15_AgesGrow.l2 k x1 x2 x9 x10 x12 x13 ([] : List Int) 0) else (if (x10.length : Int) = 0 then (none) else ((ages_Next.f k x10 (Int.tmod (wrap64 (x1)) (x10.length : Int)) x12 x9).bind fun t153 => (if (t153.length : Int) = (x10.length : Int) then (if 0 ≤ (Int.tmod (wrap64 (x1)) (x10.length : Int)) then (if (Int.tmod (wrap64 (x1)) (x10.length : Int)) < (t153.length : Int) then (drumlinelaw15_AgesGrow.j4 k x9 x10 x12 (Int.tmod (wrap64 (x1)) (x10.length : Int)) t153 ((rd t153 (Int.tmod (wrap64 (x1)) (x10.length : Int))) != 0)) else (none)) else (none)) else (drumlinelaw15_AgesGrow.j4 k x9 x10 x12 (Int.tmod (wrap64 (x1)) (x10.length : Int)) t153 true))))
def drumlinelaw15_AgesGrow.l2 : Nat → Int → List (List Int) → Int → List Int → List (List Int) → Int → List Int → Int → Option (Bool)
  | 0, _, _, _, _, _, _, _, _ => none
  | k + 1, x1, x2, x9, x10, x12, x13, x14, x15 => if x15 < (x10.length : Int) then (if 0 ≤ x13 then (if x13 < (x2.length : Int) then (if x15 < ((rd_L3 x2 x13).length : Int) then (if 0 ≤ x15 then (if x14.length < 17592186044416 then (drumlinelaw15_AgesGrow.l2 k x1 x2 x9 x10 x12 x13 (x14 ++ [mn (wrap64 (rd (rd_L3 x2 x13) x15)) x9]) (wrap64 (x15 + 1))) else (none)) else (none)) else (if x12.length < 5864062014805 then (drumlinelaw15_AgesGrow.l1 k x1 x2 x9 x10 (x12 ++ [x14]) (wrap64 (x13 + 1))) else (none))) else (none)) else (none)) else (if x12.length < 5864062014805 then (drumlinelaw15_AgesGrow.l1 k x1 x2 x9 x10 (x12 ++ [x14]) (wrap64 (x13 + 1))) else (none))
def drumlinelaw15_AgesGrow.j4 : Nat → Int → List Int → List (List Int) → Int → List Int → Bool → Option (Bool)
  | 0, _, _, _, _, _, _ => none
  | k + 1, x9, x10, x12, x16, x17, x118 => if x118 = true then (some false) else (drumlinelaw15_AgesGrow.l3 k x9 x10 x12 x16 x17 0)
def drumlinelaw15_AgesGrow.l3 : Nat → Int → List Int → List (List Int) → Int → List Int → Int → Option (Bool)
  | 0, _, _, _, _, _, _ => none
  | k + 1, x9, x10, x12, x16, x17, x18 => if x18 < (x10.length : Int) then (if x18 = x16 then (drumlinelaw15_AgesGrow.l3 k x9 x10 x12 x16 x17 (wrap64 (x18 + 1))) else (if 0 ≤ x18 then (drumlinelaw15_AgesGrow.l4 k x9 x10 x12 x16 x17 x18 (rd x10 x18) 0) else (none))) else (some true)
def drumlinelaw15_AgesGrow.l4 : Nat → Int → List Int → List (List Int) → Int → List Int → Int → Int → Int → Option (Bool)
  | 0, _, _, _, _, _, _, _, _ => none
  | k + 1, x9, x10, x12, x16, x17, x18, x19, x20 => if x20 < (x12.length : Int) then (if 0 ≤ x20 then (if x18 < ((rd_L1 x12 x20).length : Int) then (if 0 ≤ x18 then (drumlinelaw15_AgesGrow.l4 k x9 x10 x12 x16 x17 x18 (mn x19 (rd (rd_L1 x12 x20) x18)) (wrap64 (x20 + 1))) else (none)) else (drumlinelaw15_AgesGrow.l4 k x9 x10 x12 x16 x17 x18 x19 (wrap64 (x20 + 1)))) else (none)) else (if 0 ≤ x18 then (if x18 < (x17.length : Int) then (if (rd x17 x18) = (mn (wrap64 (x19 + 1)) x9) then (drumlinelaw15_AgesGrow.l3 k x9 x10 x12 x16 x17 (wrap64 (x18 + 1))) else (some false)) else (none)) else (none))
end
def drumlinelaw15_AgesGrow.f (k : Nat) (l0 : List Int) (a1 : Int) (l2 : List (List Int)) (a3 : Int) : Option (Bool) := (drumlinelaw15_alive.f k).bind fun t135 => (if t135 = true then (if (l0.length : Int) = 0 then (drumlinelaw15_AgesGrow.j0 k l0 a1 l2 (wrap64 (1 + (Int.tmod (wrap64 (a3)) 200))) true) else (if (l0.length : Int) > 6 then (drumlinelaw15_AgesGrow.j0 k l0 a1 l2 (wrap64 (1 + (Int.tmod (wrap64 (a3)) 200))) true) else (drumlinelaw15_AgesGrow.j0 k l0 a1 l2 (wrap64 (1 + (Int.tmod (wrap64 (a3)) 200))) (decide ((l2.length : Int) > 10))))) else (drumlinelaw15_AgesGrow.j0 k l0 a1 l2 (wrap64 (1 + (Int.tmod (wrap64 (a3)) 200))) true))
theorem drumlinelaw15_AgesGrow.mono_l : ∀ k, (∀ y0 y1 y2 y3 y4, LeO (drumlinelaw15_AgesGrow.j0 k y0 y1 y2 y3 y4) (drumlinelaw15_AgesGrow.j0 (k + 1) y0 y1 y2 y3 y4)) ∧ (∀ y0 y1 y2 y3 y4 y5, LeO (drumlinelaw15_AgesGrow.l0 k y0 y1 y2 y3 y4 y5) (drumlinelaw15_AgesGrow.l0 (k + 1) y0 y1 y2 y3 y4 y5)) ∧ (∀ y0 y1 y2 y3 y4 y5, LeO (drumlinelaw15_AgesGrow.l1 k y0 y1 y2 y3 y4 y5) (drumlinelaw15_AgesGrow.l1 (k + 1) y0 y1 y2 y3 y4 y5)) ∧ (∀ y0 y1 y2 y3 y4 y5 y6 y7, LeO (drumlinelaw15_AgesGrow.l2 k y0 y1 y2 y3 y4 y5 y6 y7) (drumlinelaw15_AgesGrow.l2 (k + 1) y0 y1 y2 y3 y4 y5 y6 y7)) ∧ (∀ y0 y1 y2 y3 y4 y5, LeO (drumlinelaw15_AgesGrow.j4 k y0 y1 y2 y3 y4 y5) (drumlinelaw15_AgesGrow.j4 (k + 1) y0 y1 y2 y3 y4 y5)) ∧ (∀ y0 y1 y2 y3 y4 y5, LeO (drumlinelaw15_AgesGrow.l3 k y0 y1 y2 y3 y4 y5) (drumlinelaw15_AgesGrow.l3 (k + 1) y0 y1 y2 y3 y4 y5)) ∧ (∀ y0 y1 y2 y3 y4 y5 y6 y7, LeO (drumlinelaw15_AgesGrow.l4 k y0 y1 y2 y3 y4 y5 y6 y7) (drumlinelaw15_AgesGrow.l4 (k + 1) y0 y1 y2 y3 y4 y5 y6 y7))
  | 0 => ⟨fun _ _ _ _ _ r h => by simp [drumlinelaw15_AgesGrow.j0] at h, fun _ _ _ _ _ _ r h => by simp [drumlinelaw15_AgesGrow.l0] at h, fun _ _ _ _ _ _ r h => by simp [drumlinelaw15_AgesGrow.l1] at h, fun _ _ _ _ _ _ _ _ r h => by simp [drumlinelaw15_AgesGrow.l2] at h, fun _ _ _ _ _ _ r h => by simp [drumlinelaw15_AgesGrow.j4] at h, fun _ _ _ _ _ _ r h => by simp [drumlinelaw15_AgesGrow.l3] at h, fun _ _ _ _ _ _ _ _ r h => by simp [drumlinelaw15_AgesGrow.l4] at h⟩
  | k + 1 => by
    obtain ⟨ih0, ih1, ih2, ih3, ih4, ih5, ih6⟩ := drumlinelaw15_AgesGrow.mono_l k
    refine ⟨?_, ?_, ?_, ?_, ?_, ?_, ?_⟩
    · intro y0 y1 y2 y3 y4
      unfold drumlinelaw15_AgesGrow.j0
      repeat' first
      | (with_reducible exact ih0 _ _ _ _ _)
      | (with_reducible exact ih1 _ _ _ _ _ _)
      | (with_reducible exact ih2 _ _ _ _ _ _)
      | (with_reducible exact ih3 _ _ _ _ _ _ _ _)
      | (with_reducible exact ih4 _ _ _ _ _ _)
      | (with_reducible exact ih5 _ _ _ _ _ _)
      | (with_reducible exact ih6 _ _ _ _ _ _ _ _)
      | (with_reducible exact ages_Next.mono _ _ _ _ _)
      | (with_reducible exact drumlinelaw15_alive.mono _)
      | (with_reducible exact LeO.refl _)
      | (with_reducible exact LeO.none _)
      | (with_reducible refine LeO.ite ?_ ?_)
      | (with_reducible refine LeO.bind ?_ (fun _ => ?_))
      | exact ih0 _ _ _ _ _
      | exact ih1 _ _ _ _ _ _
      | exact ih2 _ _ _ _ _ _
      | exact ih3 _ _ _ _ _ _ _ _
      | exact ih4 _ _ _ _ _ _
      | exact ih5 _ _ _ _ _ _
      | exact ih6 _ _ _ _ _ _ _ _
      | exact ages_Next.mono _ _ _ _ _
      | exact drumlinelaw15_alive.mono _
      | exact LeO.none _
      | refine LeO.ite ?_ ?_
      | refine LeO.bind ?_ (fun _ => ?_)
    · intro y0 y1 y2 y3 y4 y5
      unfold drumlinelaw15_AgesGrow.l0
      repeat' first
      | (with_reducible exact ih0 _ _ _ _ _)
      | (with_reducible exact ih1 _ _ _ _ _ _)
      | (with_reducible exact ih2 _ _ _ _ _ _)
      | (with_reducible exact ih3 _ _ _ _ _ _ _ _)
      | (with_reducible exact ih4 _ _ _ _ _ _)
      | (with_reducible exact ih5 _ _ _ _ _ _)
      | (with_reducible exact ih6 _ _ _ _ _ _ _ _)
      | (with_reducible exact ages_Next.mono _ _ _ _ _)
      | (with_reducible exact drumlinelaw15_alive.mono _)
      | (with_reducible exact LeO.refl _)
      | (with_reducible exact LeO.none _)
      | (with_reducible refine LeO.ite ?_ ?_)
      | (with_reducible refine LeO.bind ?_ (fun _ => ?_))
      | exact ih0 _ _ _ _ _
      | exact ih1 _ _ _ _ _ _
      | exact ih2 _ _ _ _ _ _
      | exact ih3 _ _ _ _ _ _ _ _
      | exact ih4 _ _ _ _ _ _
      | exact ih5 _ _ _ _ _ _
      | exact ih6 _ _ _ _ _ _ _ _
      | exact ages_Next.mono _ _ _ _ _
      | exact drumlinelaw15_alive.mono _
      | exact LeO.none _
      | refine LeO.ite ?_ ?_
      | refine LeO.bind ?_ (fun _ => ?_)
    · intro y0 y1 y2 y3 y4 y5
      unfold drumlinelaw15_AgesGrow.l1
      repeat' first
      | (with_reducible exact ih0 _ _ _ _ _)
      | (with_reducible exact ih1 _ _ _ _ _ _)
      | (with_reducible exact ih2 _ _ _ _ _ _)
      | (with_reducible exact ih3 _ _ _ _ _ _ _ _)
      | (with_reducible exact ih4 _ _ _ _ _ _)
      | (with_reducible exact ih5 _ _ _ _ _ _)
      | (with_reducible exact ih6 _ _ _ _ _ _ _ _)
      | (with_reducible exact ages_Next.mono _ _ _ _ _)
      | (with_reducible exact drumlinelaw15_alive.mono _)
      | (with_reducible exact LeO.refl _)
      | (with_reducible exact LeO.none _)
      | (with_reducible refine LeO.ite ?_ ?_)
      | (with_reducible refine LeO.bind ?_ (fun _ => ?_))
      | exact ih0 _ _ _ _ _
      | exact ih1 _ _ _ _ _ _
      | exact ih2 _ _ _ _ _ _
      | exact ih3 _ _ _ _ _ _ _ _
      | exact ih4 _ _ _ _ _ _
      | exact ih5 _ _ _ _ _ _
      | exact ih6 _ _ _ _ _ _ _ _
      | exact ages_Next.mono _ _ _ _ _
      | exact drumlinelaw15_alive.mono _
      | exact LeO.none _
      | refine LeO.ite ?_ ?_
      | refine LeO.bind ?_ (fun _ => ?_)
    · intro y0 y1 y2 y3 y4 y5 y6 y7
      unfold drumlinelaw15_AgesGrow.l2
      repeat' first
      | (with_reducible exact ih0 _ _ _ _ _)
      | (with_reducible exact ih1 _ _ _ _ _ _)
      | (with_reducible exact ih2 _ _ _ _ _ _)
      | (with_reducible exact ih3 _ _ _ _ _ _ _ _)
      | (with_reducible exact ih4 _ _ _ _ _ _)
      | (with_reducible exact ih5 _ _ _ _ _ _)
      | (with_reducible exact ih6 _ _ _ _ _ _ _ _)
      | (with_reducible exact ages_Next.mono _ _ _ _ _)
      | (with_reducible exact drumlinelaw15_alive.mono _)
      | (with_reducible exact LeO.refl _)
      | (with_reducible exact LeO.none _)
      | (with_reducible refine LeO.ite ?_ ?_)
      | (with_reducible refine LeO.bind ?_ (fun _ => ?_))
      | exact ih0 _ _ _ _ _
      | exact ih1 _ _ _ _ _ _
      | exact ih2 _ _ _ _ _ _
      | exact ih3 _ _ _ _ _ _ _ _
      | exact ih4 _ _ _ _ _ _
      | exact ih5 _ _ _ _ _ _
      | exact ih6 _ _ _ _ _ _ _ _
      | exact ages_Next.mono _ _ _ _ _
      | exact drumlinelaw15_alive.mono _
      | exact LeO.none _
      | refine LeO.ite ?_ ?_
      | refine LeO.bind ?_ (fun _ => ?_)
    · intro y0 y1 y2 y3 y4 y5
      unfold drumlinelaw15_AgesGrow.j4
      repeat' first
      | (with_reducible exact ih0 _ _ _ _ _)
      | (with_reducible exact ih1 _ _ _ _ _ _)
      | (with_reducible exact ih2 _ _ _ _ _ _)
      | (with_reducible exact ih3 _ _ _ _ _ _ _ _)
      | (with_reducible exact ih4 _ _ _ _ _ _)
      | (with_reducible exact ih5 _ _ _ _ _ _)
      | (with_reducible exact ih6 _ _ _ _ _ _ _ _)
      | (with_reducible exact ages_Next.mono _ _ _ _ _)
      | (with_reducible exact drumlinelaw15_alive.mono _)
      | (with_reducible exact LeO.refl _)
      | (with_reducible exact LeO.none _)
      | (with_reducible refine LeO.ite ?_ ?_)
      | (with_reducible refine LeO.bind ?_ (fun _ => ?_))
      | exact ih0 _ _ _ _ _
      | exact ih1 _ _ _ _ _ _
      | exact ih2 _ _ _ _ _ _
      | exact ih3 _ _ _ _ _ _ _ _
      | exact ih4 _ _ _ _ _ _
      | exact ih5 _ _ _ _ _ _
      | exact ih6 _ _ _ _ _ _ _ _
      | exact ages_Next.mono _ _ _ _ _
      | exact drumlinelaw15_alive.mono _
      | exact LeO.none _
      | refine LeO.ite ?_ ?_
      | refine LeO.bind ?_ (fun _ => ?_)
    · intro y0 y1 y2 y3 y4 y5
      unfold drumlinelaw15_AgesGrow.l3
      repeat' first
      | (with_reducible exact ih0 _ _ _ _ _)
      | (with_reducible exact ih1 _ _ _ _ _ _)
      | (with_reducible exact ih2 _ _ _ _ _ _)
      | (with_reducible exact ih3 _ _ _ _ _ _ _ _)
      | (with_reducible exact ih4 _ _ _ _ _ _)
      | (with_reducible exact ih5 _ _ _ _ _ _)
      | (with_reducible exact ih6 _ _ _ _ _ _ _ _)
      | (with_reducible exact ages_Next.mono _ _ _ _ _)
      | (with_reducible exact drumlinelaw15_alive.mono _)
      | (with_reducible exact LeO.refl _)
      | (with_reducible exact LeO.none _)
      | (with_reducible refine LeO.ite ?_ ?_)
      | (with_reducible refine LeO.bind ?_ (fun _ => ?_))
      | exact ih0 _ _ _ _ _
      | exact ih1 _ _ _ _ _ _
      | exact ih2 _ _ _ _ _ _
      | exact ih3 _ _ _ _ _ _ _ _
      | exact ih4 _ _ _ _ _ _
      | exact ih5 _ _ _ _ _ _
      | exact ih6 _ _ _ _ _ _ _ _
      | exact ages_Next.mono _ _ _ _ _
      | exact drumlinelaw15_alive.mono _
      | exact LeO.none _
      | refine LeO.ite ?_ ?_
      | refine LeO.bind ?_ (fun _ => ?_)
    · intro y0 y1 y2 y3 y4 y5 y6 y7
      unfold drumlinelaw15_AgesGrow.l4
      repeat' first
      | (with_reducible exact ih0 _ _ _ _ _)
      | (with_reducible exact ih1 _ _ _ _ _ _)
      | (with_reducible exact ih2 _ _ _ _ _ _)
      | (with_reducible exact ih3 _ _ _ _ _ _ _ _)
      | (with_reducible exact ih4 _ _ _ _ _ _)
      | (with_reducible exact ih5 _ _ _ _ _ _)
      | (with_reducible exact ih6 _ _ _ _ _ _ _ _)
      | (with_reducible exact ages_Next.mono _ _ _ _ _)
      | (with_reducible exact drumlinelaw15_alive.mono _)
      | (with_reducible exact LeO.refl _)
      | (with_reducible exact LeO.none _)
      | (with_reducible refine LeO.ite ?_ ?_)
      | (with_reducible refine LeO.bind ?_ (fun _ => ?_))
      | exact ih0 _ _ _ _ _
      | exact ih1 _ _ _ _ _ _
      | exact ih2 _ _ _ _ _ _
      | exact ih3 _ _ _ _ _ _ _ _
      | exact ih4 _ _ _ _ _ _
      | exact ih5 _ _ _ _ _ _
      | exact ih6 _ _ _ _ _ _ _ _
      | exact ages_Next.mono _ _ _ _ _
      | exact drumlinelaw15_alive.mono _
      | exact LeO.none _
      | refine LeO.ite ?_ ?_
      | refine LeO.bind ?_ (fun _ => ?_)
theorem drumlinelaw15_AgesGrow.mono : ∀ a0 a1 a2 a3 k, LeO (drumlinelaw15_AgesGrow.f k a0 a1 a2 a3) (drumlinelaw15_AgesGrow.f (k + 1) a0 a1 a2 a3) := by
  intro a0 a1 a2 a3 k
  obtain ⟨ih0, ih1, ih2, ih3, ih4, ih5, ih6⟩ := drumlinelaw15_AgesGrow.mono_l k
  unfold drumlinelaw15_AgesGrow.f
  repeat' first
      | (with_reducible exact ih0 _ _ _ _ _)
      | (with_reducible exact ih1 _ _ _ _ _ _)
      | (with_reducible exact ih2 _ _ _ _ _ _)
      | (with_reducible exact ih3 _ _ _ _ _ _ _ _)
      | (with_reducible exact ih4 _ _ _ _ _ _)
      | (with_reducible exact ih5 _ _ _ _ _ _)
      | (with_reducible exact ih6 _ _ _ _ _ _ _ _)
      | (with_reducible exact ages_Next.mono _ _ _ _ _)
      | (with_reducible exact drumlinelaw15_alive.mono _)
      | (with_reducible exact LeO.refl _)
      | (with_reducible exact LeO.none _)
      | (with_reducible refine LeO.ite ?_ ?_)
      | (with_reducible refine LeO.bind ?_ (fun _ => ?_))
      | exact ih0 _ _ _ _ _
      | exact ih1 _ _ _ _ _ _
      | exact ih2 _ _ _ _ _ _
      | exact ih3 _ _ _ _ _ _ _ _
      | exact ih4 _ _ _ _ _ _
      | exact ih5 _ _ _ _ _ _
      | exact ih6 _ _ _ _ _ _ _ _
      | exact ages_Next.mono _ _ _ _ _
      | exact drumlinelaw15_alive.mono _
      | exact LeO.none _
      | refine LeO.ite ?_ ?_
      | refine LeO.bind ?_ (fun _ => ?_)
set_option maxHeartbeats 8000000 in
set_option maxRecDepth 100000 in
theorem drumlinelaw15_AgesGrow.calls (k : Nat) (A0 : Option Addr) (c0 : Nat) (l0 : List Int) (a1 : Int) (A2 : Option Addr) (c2 : Nat) (l2 : List (List Int)) (a3 : Int) (r : Bool) (w : World) (hr0 : Kd.C (Kd.int .u8) w A0 l0.length l0) (hc0 : l0.length ≤ c0) (hr2 : Kd.C (Kd.slice 5 (Kd.int .u8)) w A2 l2.length l2) (hc2 : l2.length ≤ c2) (h : drumlinelaw15_AgesGrow.f k l0 a1 l2 a3 = some r) :
    Calls Try.prog 3 #[.slice A0 l0.length c0, .int .u8 a1, .slice A2 l2.length c2, .int .u8 a3] w fun e w' => e = .returned (.bool r) ∧ Below w.heap.size w w' := by
  have HR0 := Aside0.mk hr0
  have HC0 := Aside0.mk hc0
  clear hr0 hc0
  have HR2 := Aside0.mk hr2
  have HC2 := Aside0.mk hc2
  clear hr2 hc2
  have HB := Aside0.mk (Below.refl w.heap.size w)
  have H : ((drumlinelaw15_alive.f k).bind fun t135 => (if t135 = true then (if (l0.length : Int) = 0 then (drumlinelaw15_AgesGrow.j0 k l0 a1 l2 (wrap64 (1 + (Int.tmod (wrap64 (a3)) 200))) true) else (if (l0.length : Int) > 6 then (drumlinelaw15_AgesGrow.j0 k l0 a1 l2 (wrap64 (1 + (Int.tmod (wrap64 (a3)) 200))) true) else (drumlinelaw15_AgesGrow.j0 k l0 a1 l2 (wrap64 (1 + (Int.tmod (wrap64 (a3)) 200))) (decide ((l2.length : Int) > 10))))) else (drumlinelaw15_AgesGrow.j0 k l0 a1 l2 (wrap64 (1 + (Int.tmod (wrap64 (a3)) 200))) true))) = some r := h
  clear h
  have HC5 := Aside0.mk H
  clear H
  go_enter Try.func3, Try.ntmps3
  go_upto_region 2 with (fail)
  go_cut [41] (fun v41 wc => ∃ (kq : Nat) (x41_4 : Bool), v41 = .bool x41_4 ∧ Aside0 (drumlinelaw15_AgesGrow.j0 kq l0 a1 l2 (wrap64 (1 + (Int.tmod (wrap64 (a3)) 200))) x41_4 = some r) ∧ Aside0 (kq ≤ k) ∧ Aside0 (Below w.heap.size w wc))
  case first =>
    have H := HC5.out
    clear HC5
    replace H := Option.bind_eq_some_iff.mp H
    obtain ⟨t135, A60, H⟩ := H
    replace H : (if t135 = true then (if (l0.length : Int) = 0 then (drumlinelaw15_AgesGrow.j0 k l0 a1 l2 (wrap64 (1 + (Int.tmod (wrap64 (a3)) 200))) true) else (if (l0.length : Int) > 6 then (drumlinelaw15_AgesGrow.j0 k l0 a1 l2 (wrap64 (1 + (Int.tmod (wrap64 (a3)) 200))) true) else (drumlinelaw15_AgesGrow.j0 k l0 a1 l2 (wrap64 (1 + (Int.tmod (wrap64 (a3)) 200))) (decide ((l2.length : Int) > 10))))) else (drumlinelaw15_AgesGrow.j0 k l0 a1 l2 (wrap64 (1 + (Int.tmod (wrap64 (a3)) 200))) true)) = some r := H
    have A6 := Aside0.mk A60
    clear A60
    by_cases c7 : t135 = true
    · subst c7
      have H1 : (if (l0.length : Int) = 0 then (drumlinelaw15_AgesGrow.j0 k l0 a1 l2 (wrap64 (1 + (Int.tmod (wrap64 (a3)) 200))) true) else (if (l0.length : Int) > 6 then (drumlinelaw15_AgesGrow.j0 k l0 a1 l2 (wrap64 (1 + (Int.tmod (wrap64 (a3)) 200))) true) else (drumlinelaw15_AgesGrow.j0 k l0 a1 l2 (wrap64 (1 + (Int.tmod (wrap64 (a3)) 200))) (decide ((l2.length : Int) > 10))))) = some r := by rw [if_pos rfl] at H; exact H
      clear H
      have H := H1
      clear H1
      by_cases c8 : (l0.length : Int) = 0
      · rw [if_pos c8] at H
        have c8b0 : ((l0.length : Int) == 0) = true := beq_iff_eq.mpr c8
        have c8b1 : ((l0.length : Int) != 0) = false := bne_eq_false_iff_eq.mpr c8
        clear c8
        (first | rw [c8b0] | (simp only [i64_w, i32_w]; rw [c8b0]) | skip)
        have H' := Aside0.mk H
        clear H
        go_wp2_with (first | ((with_reducible refine gate_callee (f := 14) rfl ?_); refine goesL_ (some 25) rfl rfl Try.func14 (by kernel_rfl) rfl #[] rfl (by (try simp only [List.map_toArray, List.map_cons, List.map_nil]); first | done | rfl | (simp only [List.length_drop, List.length_take]; rfl)) ?_; (with_reducible refine (drumlinelaw15_alive.calls k  true _ A6.out).mono ?_); rintro e w9 ⟨rfl, hb⟩; refine ⟨_, rfl, ?_⟩; have n0_ := Aside0.mk (below_step (by repeat (first | (with_reducible first | exact HB.out | apply below_alloc | apply pw_below_drewN | apply below_drew1) | exact HB.out)) hb); clear HB; have HB := n0_; clear n0_; (try clear hb); (try clear hb2); (try clear hk); (try clear hi)))
        go_meet
        case rel => exact ⟨_, (true), (by first | rfl | (simp; done) | (simp [*]; done)), H', ⟨by first | omega | exact Nat.le_refl _⟩, ⟨by repeat (first | (with_reducible first | exact HB.out | apply below_alloc | apply pw_below_drewN | apply below_drew1) | exact HB.out)⟩⟩
      · rw [if_neg c8] at H
        have c8b0 : ((l0.length : Int) == 0) = false := beq_eq_false_iff_ne.mpr c8
        have c8b1 : ((l0.length : Int) != 0) = true := bne_iff_ne.mpr c8
        have c8b2 : ¬ (l0 = []) := fun h_ => c8 (by rw [h_]; rfl)
        (first | rw [c8b0] | (simp only [i64_w, i32_w]; rw [c8b0]) | skip)
        by_cases c10 : (l0.length : Int) > 6
        · rw [if_pos c10] at H
          have c10b0 : decide (6 < (l0.length : Int)) = true := decide_eq_true c10
          have c10b1 : decide (6 < l0.length) = true := decide_eq_true (by omega)
          clear c10
          have H' := Aside0.mk H
          clear H
          go_wp2_with (first | ((with_reducible refine gate_callee (f := 14) rfl ?_); refine goesL_ (some 25) rfl rfl Try.func14 (by kernel_rfl) rfl #[] rfl (by (try simp only [List.map_toArray, List.map_cons, List.map_nil]); first | done | rfl | (simp only [List.length_drop, List.length_take]; rfl)) ?_; (with_reducible refine (drumlinelaw15_alive.calls k  true _ A6.out).mono ?_); rintro e w11 ⟨rfl, hb⟩; refine ⟨_, rfl, ?_⟩; have n0_ := Aside0.mk (below_step (by repeat (first | (with_reducible first | exact HB.out | apply below_alloc | apply pw_below_drewN | apply below_drew1) | exact HB.out)) hb); clear HB; have HB := n0_; clear n0_; (try clear hb); (try clear hb2); (try clear hk); (try clear hi)))
          go_meet
          case rel => exact ⟨_, (true), (by first | rfl | (simp; done) | (simp [*]; done)), H', ⟨by first | omega | exact Nat.le_refl _⟩, ⟨by repeat (first | (with_reducible first | exact HB.out | apply below_alloc | apply pw_below_drewN | apply below_drew1) | exact HB.out)⟩⟩
        · rw [if_neg c10] at H
          have c10b0 : decide (6 < (l0.length : Int)) = false := decide_eq_false c10
          have c10b1 : decide (6 < l0.length) = false := decide_eq_false (by omega)
          clear c10
          have H' := Aside0.mk H
          clear H
          go_wp2_with (first | ((with_reducible refine gate_callee (f := 14) rfl ?_); refine goesL_ (some 25) rfl rfl Try.func14 (by kernel_rfl) rfl #[] rfl (by (try simp only [List.map_toArray, List.map_cons, List.map_nil]); first | done | rfl | (simp only [List.length_drop, List.length_take]; rfl)) ?_; (with_reducible refine (drumlinelaw15_alive.calls k  true _ A6.out).mono ?_); rintro e w12 ⟨rfl, hb⟩; refine ⟨_, rfl, ?_⟩; have n0_ := Aside0.mk (below_step (by repeat (first | (with_reducible first | exact HB.out | apply below_alloc | apply pw_below_drewN | apply below_drew1) | exact HB.out)) hb); clear HB; have HB := n0_; clear n0_; (try clear hb); (try clear hb2); (try clear hk); (try clear hi)))
          go_meet
          case rel => exact ⟨_, (decide ((l2.length : Int) > 10)), (by first | rfl | (simp; done) | (simp [*]; done)), H', ⟨by first | omega | exact Nat.le_refl _⟩, ⟨by repeat (first | (with_reducible first | exact HB.out | apply below_alloc | apply pw_below_drewN | apply below_drew1) | exact HB.out)⟩⟩
    · replace c7 := Bool.eq_false_iff.mpr c7
      subst c7
      have H1 : (drumlinelaw15_AgesGrow.j0 k l0 a1 l2 (wrap64 (1 + (Int.tmod (wrap64 (a3)) 200))) true) = some r := by rw [if_neg (show ¬ (false = true) by decide)] at H; exact H
      clear H
      have H := H1
      clear H1
      have H' := Aside0.mk H
      clear H
      go_wp2_with (first | ((with_reducible refine gate_callee (f := 14) rfl ?_); refine goesL_ (some 25) rfl rfl Try.func14 (by kernel_rfl) rfl #[] rfl (by (try simp only [List.map_toArray, List.map_cons, List.map_nil]); first | done | rfl | (simp only [List.length_drop, List.length_take]; rfl)) ?_; (with_reducible refine (drumlinelaw15_alive.calls k  false _ A6.out).mono ?_); rintro e w13 ⟨rfl, hb⟩; refine ⟨_, rfl, ?_⟩; have n0_ := Aside0.mk (below_step (by repeat (first | (with_reducible first | exact HB.out | apply below_alloc | apply pw_below_drewN | apply below_drew1) | exact HB.out)) hb); clear HB; have HB := n0_; clear n0_; (try clear hb); (try clear hb2); (try clear hk); (try clear hi)))
      go_meet
      case rel => exact ⟨_, (true), (by first | rfl | (simp; done) | (simp [*]; done)), H', ⟨by first | omega | exact Nat.le_refl _⟩, ⟨by repeat (first | (with_reducible first | exact HB.out | apply below_alloc | apply pw_below_drewN | apply below_drew1) | exact HB.out)⟩⟩
  case rest =>
    clear HC5
    try clear c1
    try clear c2
    try clear p2
    try clear c3
    try clear p6
    try clear c7
    try clear c8
    try clear c8b0
    try clear c8b1
    try clear c8b2
    try clear c10
    try clear c10b0
    try clear c10b1
    obtain ⟨kq, x41_4, rfl, HA, HJ4, HB⟩ := hcut
    cases kq with
    | zero => exact absurd HA.out (by simp [drumlinelaw15_AgesGrow.j0])
    | succ kj4 =>
      have H := HA.out
      clear HA
      simp only [drumlinelaw15_AgesGrow.j0] at H
      by_cases c14 : x41_4 = true
      · subst c14
        have H1 : ((drumlinelaw15_alive.f kj4).bind fun t136 => (some t136)) = some r := by rw [if_pos rfl] at H; exact H
        clear H
        have H := H1
        clear H1
        replace H := Option.bind_eq_some_iff.mp H
        obtain ⟨t136, A150, H⟩ := H
        replace H : (some t136) = some r := H
        have A15 := Aside0.mk A150
        clear A150
        obtain rfl := Option.some.inj H
        go_wp2_with (first | ((with_reducible refine gate_callee (f := 14) rfl ?_); refine goesL_ (some 42) rfl rfl Try.func14 (by kernel_rfl) rfl #[] rfl (by (try simp only [List.map_toArray, List.map_cons, List.map_nil]); first | done | rfl | (simp only [List.length_drop, List.length_take]; rfl)) ?_; (with_reducible refine (drumlinelaw15_alive.calls kj4  t136 _ A15.out).mono ?_); rintro e w16 ⟨rfl, hb⟩; refine ⟨_, rfl, ?_⟩; have n0_ := Aside0.mk (below_step (by repeat (first | (with_reducible first | exact HB.out | apply below_alloc | apply pw_below_drewN | apply below_drew1) | exact HB.out)) hb); clear HB; have HB := n0_; clear n0_; (try clear hb); (try clear hb2); (try clear hk); (try clear hi)))
        go_ret
        exact ⟨by first | rfl | (simp [errW_none, errW_some] <;> rfl) | (simp [*, errW_none, errW_some] <;> rfl), by repeat (first | (with_reducible first | exact HB.out | apply below_alloc | apply pw_below_drewN | apply below_drew1) | exact HB.out)⟩
      · replace c14 := Bool.eq_false_iff.mpr c14
        subst c14
        have H1 : (drumlinelaw15_AgesGrow.l0 kj4 l0 a1 l2 (wrap64 (1 + (Int.tmod (wrap64 (a3)) 200))) ([] : List Int) 0) = some r := by rw [if_neg (show ¬ (false = true) by decide)] at H; exact H
        clear H
        have H := H1
        clear H1
        have H' := Aside0.mk H
        clear H
        go_wp2
        go_loopg [10, 11] kj4 (fun kq v10 v11 w' => ∃ (x10_2 : List Int) (x11_2 : Int), v11 = .int .i64 x11_2 ∧ Aside0 (drumlinelaw15_AgesGrow.l0 kq l0 a1 l2 (wrap64 (1 + (Int.tmod (wrap64 (a3)) 200))) x10_2 x11_2 = some r) ∧ Aside0 (kq ≤ kj4) ∧ Aside0 (Kd.R (Kd.int .i64) 3 w' w.heap.size (fun _ => True) v10 x10_2) ∧ Aside0 (Below w.heap.size w w'))
        case atStart => exact ⟨(([] : List Int)), (0), (by first | rfl | (simp; done) | (simp [*]; done)), H', ⟨Nat.le_refl _⟩, ⟨by first | exact Kd.R_nil _ _ _ _ _ | exact Kd.N_nil _ _ _ _ _ | exact Kd.V_nil _ _ _ _ _ | exact Kd.Q_nil _ _ _ _ _ | exact Kd.S_nil _ _ _ _ _⟩, ⟨by repeat (first | (with_reducible first | exact HB.out | apply below_alloc | apply pw_below_drewN | apply below_drew1) | exact HB.out)⟩⟩
        case round =>
          clear H'
          try clear c1
          try clear c2
          try clear p2
          try clear c3
          try clear p6
          try clear c7
          try clear c8
          try clear c8b0
          try clear c8b1
          try clear c8b2
          try clear c10
          try clear c10b0
          try clear c10b1
          try clear c14
          try clear p2
          try clear p6
          obtain ⟨x10_2, x11_2, rfl, HA, HK2, HO_10, HB⟩ := hrel
          cases gk with
          | zero => exact absurd HA.out (by simp [drumlinelaw15_AgesGrow.l0])
          | succ k2 =>
            have H := HA.out
            clear HA
            simp only [drumlinelaw15_AgesGrow.l0] at H
            by_cases c17 : x11_2 < (l0.length : Int)
            · rw [if_pos c17] at H
              have c17b0 : decide (x11_2 < (l0.length : Int)) = true := decide_eq_true c17
              clear c17
              by_cases c18 : 0 ≤ x11_2
              · rw [if_pos c18] at H
                have c18b0 : decide (0 ≤ x11_2) = true := decide_eq_true c18
                clear c18
                obtain ⟨ji19, hji19⟩ : ∃ j_ : Int, (mn (wrap64 (rd l0 x11_2)) (wrap64 (1 + (Int.tmod (wrap64 (a3)) 200)))) = j_ := ⟨_, rfl⟩
                replace H : (if x10_2.length < 17592186044416 then (drumlinelaw15_AgesGrow.l0 k2 l0 a1 l2 (wrap64 (1 + (Int.tmod (wrap64 (a3)) 200))) (x10_2 ++ [ji19]) (wrap64 (x11_2 + 1))) else (none)) = some r := by first | (rw [hji19] at H; exact H) | (simp only [hji19] at H ⊢; exact H)
                have hji19_ : (if (wrap64 (1 + (Int.tmod (wrap64 (a3)) 200))) < (wrap64 (rd l0 x11_2)) then (wrap64 (1 + (Int.tmod (wrap64 (a3)) 200))) else (wrap64 (rd l0 x11_2))) = ji19 := hji19
                by_cases c20 : x10_2.length < 17592186044416
                · rw [if_pos c20] at H
                  have LMc20 := Aside0.mk c20
                  clear c20
                  obtain ⟨y138, hy138⟩ : ∃ y_ : List Int, y_ = (x10_2 ++ [ji19]) := ⟨_, rfl⟩
                  replace H : (drumlinelaw15_AgesGrow.l0 k2 l0 a1 l2 (wrap64 (1 + (Int.tmod (wrap64 (a3)) 200))) y138 (wrap64 (x11_2 + 1))) = some r := by first | (rw [hy138]; with_reducible exact H) | (have H2_ := (Option.bind_some _ _).symm.trans H; rw [hy138]; with_reducible exact H2_) | (have H2_ := (Option.bind_some _ _).symm.trans H; with_reducible exact H2_) | with_reducible exact H | (rw [hy138]; exact H) | exact H
                  have Ny138 := Aside0.mk hy138
                  clear hy138
                  have H' := Aside0.mk H
                  clear H
                  have p137 : 0 ≤ (x11_2 : Int) := of_decide_eq_true (by first | (with_reducible assumption) | assumption)
                  have q137 : x11_2 < (l0.length : Int) := of_decide_eq_true (by first | (with_reducible assumption) | assumption)
                  obtain ⟨ad137, e137, hx137_0⟩ := Kd.at_int HR0.out x11_2 p137 q137
                  cases e137
                  replace hx137_0 := (HB.out.cell (World.block_lt_of_cell? w _ hx137_0)).trans hx137_0
                  replace p137 := eq_true p137
                  replace q137 := eq_true q137
                  go_wp2_with (first | ((with_reducible refine gate_builtin (b := .append) (xs := #[.tmp 49, .tmp 57]) rfl ?_); (try (refine gate_guard (by rfl) ?_; dsimp only)); at_builtin; refine Kd.R_append (Kd.int .i64) (w0 := w) w.heap.size rfl (.tmp 49) (.tmp 57) 25 3 (.int .i64 0) 8 rfl Try.underlying25 info3 rfl (by decide) (by omega) u10 x10_2 ji19 [.int .i64 ji19] (fun _ => True) (fun _ => False) rfl rfl ?aP (fun _ hk => hk.elim) ?aF ?aO ?aB ?aS ?aL ?_; (case aP => exact rfl); (case aB => exact (by repeat (first | (with_reducible first | exact HB.out | apply below_alloc | apply pw_below_drewN | apply below_drew1) | exact HB.out))); (case aF => exact (fun _ _ => trivial)); (case aO => exact (by (with_reducible repeat (first | apply Kd.R_alloc | apply Kd.R_drewN | apply Kd.R_drew)); exact HO_10.out)); (case aS => exact (below_size (by repeat (first | (with_reducible first | exact HB.out | apply below_alloc | apply pw_below_drewN | apply below_drew1) | exact HB.out)))); (case aL => have := LMc20.out; omega); intro v139 w21 ho hb hg hat; rw [← Ny138.out] at ho; have n0_ := Aside0.mk (hb); have n1_ := Aside0.mk (ho); clear HB; clear HO_10; have HB := n0_; have HO140 := n1_; clear n0_ n1_; clear ho hb hg hat))
                  go_roundg k2
                  case measure => have := HJ4.out; have := HK2.out; omega
                  case rel => exact ⟨(y138), (wrap64 (x11_2 + 1)), (by first | rfl | (simp; done) | (simp [*]; done)), H', ⟨by have := HJ4.out; have := HK2.out; omega⟩, ⟨by (with_reducible repeat (first | apply Kd.R_alloc | apply Kd.R_drewN | apply Kd.R_drew)); exact HO140.out⟩, ⟨by repeat (first | (with_reducible first | exact HB.out | apply below_alloc | apply pw_below_drewN | apply below_drew1) | exact HB.out)⟩⟩
                · rw [if_neg c20] at H
                  exact absurd H (by simp)
              · rw [if_neg c18] at H
                exact absurd H (by simp)
            · rw [if_neg c17] at H
              have c17b0 : decide (x11_2 < (l0.length : Int)) = false := decide_eq_false c17
              clear c17
              have H' := Aside0.mk H
              clear H
              go_wp2
              go_loopg [12, 13] k2 (fun kq v12 v13 w' => ∃ (x12_3 : List (List Int)) (x13_3 : Int), v13 = .int .i64 x13_3 ∧ Aside0 (drumlinelaw15_AgesGrow.l1 kq a1 l2 (wrap64 (1 + (Int.tmod (wrap64 (a3)) 200))) x10_2 x12_3 x13_3 = some r) ∧ Aside0 (kq ≤ k2) ∧ Aside0 (Kd.R (Kd.int .i64) 3 w' w.heap.size (fun _ => True) u10 x10_2) ∧ Aside0 (Kd.S (Kd.slice 3 (Kd.int .i64)) 25 w' w.heap.size (fun k_ => some k_ ≠ (u10 : Value).ownBlock) v12 x12_3) ∧ Aside0 (Below w.heap.size w w'))
              case atStart => exact ⟨(([] : List (List Int))), (0), (by first | rfl | (simp; done) | (simp [*]; done)), H', ⟨Nat.le_refl _⟩, ⟨by (with_reducible repeat (first | apply Kd.R_alloc | apply Kd.R_drewN | apply Kd.R_drew)); exact HO_10.out⟩, ⟨by first | exact Kd.S_nil _ _ _ _ _ | exact Kd.N_nil _ _ _ _ _ | exact Kd.V_nil _ _ _ _ _ | exact Kd.Q_nil _ _ _ _ _ | exact Kd.R_nil _ _ _ _ _⟩, ⟨by repeat (first | (with_reducible first | exact HB.out | apply below_alloc | apply pw_below_drewN | apply below_drew1) | exact HB.out)⟩⟩
              case round =>
                clear H'
                try clear c1
                try clear p1
                try clear q1
                try clear hx1
                try clear c2
                try clear p2
                try clear c3
                try clear p6
                try clear c7
                try clear c8
                try clear c8b0
                try clear c8b1
                try clear c8b2
                try clear c10
                try clear c10b0
                try clear c10b1
                try clear p13
                try clear q13
                try clear hx13
                try clear c14
                try clear c17
                try clear c17b0
                try clear c18
                try clear c18b0
                try clear c20
                try clear hx137_0
                try clear p137
                try clear p2
                try clear p6
                try clear q137
                obtain ⟨x12_3, x13_3, rfl, HA, HK3, HO_10, HO_12, HB⟩ := hrel
                cases gk with
                | zero => exact absurd HA.out (by simp [drumlinelaw15_AgesGrow.l1])
                | succ k3 =>
                  have H := HA.out
                  clear HA
                  simp only [drumlinelaw15_AgesGrow.l1] at H
                  by_cases c22 : x13_3 < (l2.length : Int)
                  · rw [if_pos c22] at H
                    have c22b0 : decide (x13_3 < (l2.length : Int)) = true := decide_eq_true c22
                    clear c22
                    have H' := Aside0.mk H
                    clear H
                    go_wp2
                    go_loopg [14, 15] k3 (fun kq v14 v15 w' => ∃ (x14_4 : List Int) (x15_4 : Int), v15 = .int .i64 x15_4 ∧ Aside0 (drumlinelaw15_AgesGrow.l2 kq a1 l2 (wrap64 (1 + (Int.tmod (wrap64 (a3)) 200))) x10_2 x12_3 x13_3 x14_4 x15_4 = some r) ∧ Aside0 (kq ≤ k3) ∧ Aside0 (Kd.R (Kd.int .i64) 3 w' w.heap.size (fun k_ => some k_ ≠ (v14 : Value).ownBlock) u10 x10_2) ∧ Aside0 (Kd.S (Kd.slice 3 (Kd.int .i64)) 25 w' w.heap.size (fun k_ => some k_ ≠ (u10 : Value).ownBlock ∧ some k_ ≠ (v14 : Value).ownBlock) u12 x12_3) ∧ Aside0 (Kd.R (Kd.int .i64) 3 w' w.heap.size (fun k_ => some k_ ≠ (u10 : Value).ownBlock) v14 x14_4) ∧ Aside0 (Below w.heap.size w w'))
                    case atStart => exact ⟨(([] : List Int)), (0), (by first | rfl | (simp; done) | (simp [*]; done)), H', ⟨Nat.le_refl _⟩, ⟨by (with_reducible repeat (first | apply Kd.R_alloc | apply Kd.R_drewN | apply Kd.R_drew)); exact Kd.R_mono HO_10.out (fun _ hk => (by simp [Value.ownBlock]))⟩, ⟨by (with_reducible repeat (first | apply Kd.S_alloc | apply Kd.S_drewN | apply Kd.S_drew)); exact Kd.S_mono HO_12.out (fun _ hk => ⟨hk, (by simp [Value.ownBlock])⟩)⟩, ⟨by first | exact Kd.R_nil _ _ _ _ _ | exact Kd.N_nil _ _ _ _ _ | exact Kd.V_nil _ _ _ _ _ | exact Kd.Q_nil _ _ _ _ _ | exact Kd.S_nil _ _ _ _ _⟩, ⟨by repeat (first | (with_reducible first | exact HB.out | apply below_alloc | apply pw_below_drewN | apply below_drew1) | exact HB.out)⟩⟩
                    case round =>
                      clear H'
                      try clear c1
                      try clear p1
                      try clear q1
                      try clear hx1
                      try clear c2
                      try clear p2
                      try clear c3
                      try clear p6
                      try clear c7
                      try clear c8
                      try clear c8b0
                      try clear c8b1
                      try clear c8b2
                      try clear c10
                      try clear c10b0
                      try clear c10b1
                      try clear p13
                      try clear q13
                      try clear hx13
                      try clear c14
                      try clear c17
                      try clear c17b0
                      try clear c18
                      try clear c18b0
                      try clear c20
                      try clear c22
                      try clear c22b0
                      try clear hx137_0
                      try clear p1
                      try clear p13
                      try clear p137
                      try clear p2
                      try clear p6
                      try clear q1
                      try clear q13
                      try clear q137
                      obtain ⟨x14_4, x15_4, rfl, HA, HK4, HO_10, HO_12, HO_14, HB⟩ := hrel
                      cases gk with
                      | zero => exact absurd HA.out (by simp [drumlinelaw15_AgesGrow.l2])
                      | succ k4 =>
                        have H := HA.out
                        clear HA
                        simp only [drumlinelaw15_AgesGrow.l2] at H
                        by_cases c23 : x15_4 < (x10_2.length : Int)
                        · rw [if_pos c23] at H
                          have c23b0 : decide (x15_4 < (x10_2.length : Int)) = true := decide_eq_true c23
                          clear c23
                          by_cases c24 : 0 ≤ x13_3
                          · rw [if_pos c24] at H
                            have c24b0 : decide (0 ≤ x13_3) = true := decide_eq_true c24
                            clear c24
                            by_cases c25 : x13_3 < (l2.length : Int)
                            · rw [if_pos c25] at H
                              have c25b0 : decide (x13_3 < (l2.length : Int)) = true := decide_eq_true c25
                              clear c25
                              by_cases c26 : x15_4 < ((rd_L3 l2 x13_3).length : Int)
                              · rw [if_pos c26] at H
                                have c26b0 : decide (x15_4 < ((rd_L3 l2 x13_3).length : Int)) = true := decide_eq_true c26
                                clear c26
                                by_cases c27 : 0 ≤ x15_4
                                · rw [if_pos c27] at H
                                  have c27b0 : decide (0 ≤ x15_4) = true := decide_eq_true c27
                                  clear c27
                                  obtain ⟨ji28, hji28⟩ : ∃ j_ : Int, (mn (wrap64 (rd (rd_L3 l2 x13_3) x15_4)) (wrap64 (1 + (Int.tmod (wrap64 (a3)) 200)))) = j_ := ⟨_, rfl⟩
                                  replace H : (if x14_4.length < 17592186044416 then (drumlinelaw15_AgesGrow.l2 k4 a1 l2 (wrap64 (1 + (Int.tmod (wrap64 (a3)) 200))) x10_2 x12_3 x13_3 (x14_4 ++ [ji28]) (wrap64 (x15_4 + 1))) else (none)) = some r := by first | (rw [hji28] at H; exact H) | (simp only [hji28] at H ⊢; exact H)
                                  have hji28_ : (if (wrap64 (1 + (Int.tmod (wrap64 (a3)) 200))) < (wrap64 (rd (rd_L3 l2 x13_3) x15_4)) then (wrap64 (1 + (Int.tmod (wrap64 (a3)) 200))) else (wrap64 (rd (rd_L3 l2 x13_3) x15_4))) = ji28 := hji28
                                  by_cases c29 : x14_4.length < 17592186044416
                                  · rw [if_pos c29] at H
                                    have LMc29 := Aside0.mk c29
                                    clear c29
                                    obtain ⟨y144, hy144⟩ : ∃ y_ : List Int, y_ = (x14_4 ++ [ji28]) := ⟨_, rfl⟩
                                    replace H : (drumlinelaw15_AgesGrow.l2 k4 a1 l2 (wrap64 (1 + (Int.tmod (wrap64 (a3)) 200))) x10_2 x12_3 x13_3 y144 (wrap64 (x15_4 + 1))) = some r := by first | (rw [hy144]; with_reducible exact H) | (have H2_ := (Option.bind_some _ _).symm.trans H; rw [hy144]; with_reducible exact H2_) | (have H2_ := (Option.bind_some _ _).symm.trans H; with_reducible exact H2_) | with_reducible exact H | (rw [hy144]; exact H) | exact H
                                    have Ny144 := Aside0.mk hy144
                                    clear hy144
                                    have H' := Aside0.mk H
                                    clear H
                                    obtain ⟨Ao30, co30, eo30⟩ := Kd.R_slice HO_10.out
                                    subst eo30
                                    have p141 : 0 ≤ (x13_3 : Int) := of_decide_eq_true (by first | (with_reducible assumption) | assumption)
                                    have q141 : x13_3 < (l2.length : Int) := of_decide_eq_true (by first | (with_reducible assumption) | assumption)
                                    obtain ⟨ad141, A141_0, c141_0, e141, hx141_0, hl141_0, hi141_0⟩ := at_L3 HR2.out x13_3 p141 q141
                                    cases e141
                                    replace hx141_0 := (HB.out.cell (World.block_lt_of_cell? w _ hx141_0)).trans hx141_0
                                    have HR141_0 := Aside0.mk hi141_0
                                    have HC141_0 := Aside0.mk hl141_0
                                    clear hi141_0 hl141_0
                                    replace p141 := eq_true p141
                                    replace q141 := eq_true q141
                                    have p142 : 0 ≤ (x13_3 : Int) := of_decide_eq_true (by first | (with_reducible assumption) | assumption)
                                    have q142 : x13_3 < (l2.length : Int) := of_decide_eq_true (by first | (with_reducible assumption) | assumption)
                                    obtain ⟨ad142, A142_0, c142_0, e142, hx142_0, hl142_0, hi142_0⟩ := at_L3 HR2.out x13_3 p142 q142
                                    obtain rfl : ad141 = ad142 := (by injection e142)
                                    replace hx142_0 := (HB.out.cell (World.block_lt_of_cell? w _ hx142_0)).trans hx142_0
                                    have HR142_0 := Aside0.mk hi142_0
                                    have HC142_0 := Aside0.mk hl142_0
                                    clear hi142_0 hl142_0
                                    replace p142 := eq_true p142
                                    replace q142 := eq_true q142
                                    have ea_ := Option.some.inj (hx141_0.symm.trans hx142_0)
                                    injection ea_ with ea_ en_ ec_
                                    subst ea_
                                    subst ec_
                                    clear en_
                                    have p143 : 0 ≤ (x15_4 : Int) := of_decide_eq_true (by first | (with_reducible assumption) | assumption)
                                    have q143 : x15_4 < ((rd_L3 l2 x13_3).length : Int) := of_decide_eq_true (by first | (with_reducible assumption) | assumption)
                                    obtain ⟨ad143, e143, hx143_0⟩ := Kd.at_int HR142_0.out x15_4 p143 q143
                                    cases e143
                                    replace hx143_0 := (HB.out.cell (World.block_lt_of_cell? w _ hx143_0)).trans hx143_0
                                    replace p143 := eq_true p143
                                    replace q143 := eq_true q143
                                    go_wp2_with (first | ((with_reducible refine gate_builtin (b := .append) (xs := #[.tmp 80, .tmp 91]) rfl ?_); (try (refine gate_guard (by rfl) ?_; dsimp only)); at_builtin; refine Kd.R_append (Kd.int .i64) (w0 := w) w.heap.size rfl (.tmp 80) (.tmp 91) 25 3 (.int .i64 0) 8 rfl Try.underlying25 info3 rfl (by decide) (by omega) u14 x14_4 ji28 [.int .i64 ji28] (fun k_ => some k_ ≠ (.slice Ao30 x10_2.length co30 : Value).ownBlock) (fun _ => False) rfl rfl ?aP (fun _ hk => hk.elim) ?aF ?aO ?aB ?aS ?aL ?_; (case aP => exact rfl); (case aB => exact (by repeat (first | (with_reducible first | exact HB.out | apply below_alloc | apply pw_below_drewN | apply below_drew1) | exact HB.out))); (case aF => exact (fun k_ hk => Kd.fresh' (Kd.R_lt (by (with_reducible repeat (first | apply Kd.R_alloc | apply Kd.R_drewN | apply Kd.R_drew)); exact HO_10.out)) k_ hk)); (case aO => exact (by (with_reducible repeat (first | apply Kd.R_alloc | apply Kd.R_drewN | apply Kd.R_drew)); exact HO_14.out)); (case aS => exact (below_size (by repeat (first | (with_reducible first | exact HB.out | apply below_alloc | apply pw_below_drewN | apply below_drew1) | exact HB.out)))); (case aL => have := LMc29.out; omega); intro v145 w31 ho hb hg hat; rw [← Ny144.out] at ho; have n0_ := Aside0.mk (Kd.R_after (ok := (fun _ => True)) (by (with_reducible repeat (first | apply Kd.R_alloc | apply Kd.R_drewN | apply Kd.R_drew)); exact Kd.R_mono HO_10.out (fun _ hk => ⟨trivial, hk⟩)) hg hat); have n1_ := Aside0.mk (Kd.S_after (ok := (fun k_ => some k_ ≠ (.slice Ao30 x10_2.length co30 : Value).ownBlock)) (by (with_reducible repeat (first | apply Kd.S_alloc | apply Kd.S_drewN | apply Kd.S_drew)); exact HO_12.out) hg hat); have n2_ := Aside0.mk (hb); have n3_ := Aside0.mk (ho); clear HO_10; clear HO_12; clear HB; clear HO_14; have HO_10 := n0_; have HO_12 := n1_; have HB := n2_; have HO146 := n3_; clear n0_ n1_ n2_ n3_; clear ho hb hg hat))
                                    go_roundg k4
                                    case measure => have := HJ4.out; have := HK2.out; have := HK3.out; have := HK4.out; omega
                                    case rel => exact ⟨(y144), (wrap64 (x15_4 + 1)), (by first | rfl | (simp; done) | (simp [*]; done)), H', ⟨by have := HJ4.out; have := HK2.out; have := HK3.out; have := HK4.out; omega⟩, ⟨by (with_reducible repeat (first | apply Kd.R_alloc | apply Kd.R_drewN | apply Kd.R_drew)); exact Kd.R_mono HO_10.out (fun _ hk => hk.2)⟩, ⟨by (with_reducible repeat (first | apply Kd.S_alloc | apply Kd.S_drewN | apply Kd.S_drew)); exact HO_12.out⟩, ⟨by (with_reducible repeat (first | apply Kd.R_alloc | apply Kd.R_drewN | apply Kd.R_drew)); exact HO146.out⟩, ⟨by repeat (first | (with_reducible first | exact HB.out | apply below_alloc | apply pw_below_drewN | apply below_drew1) | exact HB.out)⟩⟩
                                  · rw [if_neg c29] at H
                                    exact absurd H (by simp)
                                · rw [if_neg c27] at H
                                  exact absurd H (by simp)
                              · rw [if_neg c26] at H
                                have c26b0 : decide (x15_4 < ((rd_L3 l2 x13_3).length : Int)) = false := decide_eq_false c26
                                clear c26
                                by_cases c32 : x12_3.length < 5864062014805
                                · rw [if_pos c32] at H
                                  have LMc32 := Aside0.mk c32
                                  clear c32
                                  obtain ⟨y147, hy147⟩ : ∃ y_ : List (List Int), y_ = (x12_3 ++ [x14_4]) := ⟨_, rfl⟩
                                  replace H : (drumlinelaw15_AgesGrow.l1 k4 a1 l2 (wrap64 (1 + (Int.tmod (wrap64 (a3)) 200))) x10_2 y147 (wrap64 (x13_3 + 1))) = some r := by first | (rw [hy147]; with_reducible exact H) | (have H2_ := (Option.bind_some _ _).symm.trans H; rw [hy147]; with_reducible exact H2_) | (have H2_ := (Option.bind_some _ _).symm.trans H; with_reducible exact H2_) | with_reducible exact H | (rw [hy147]; exact H) | exact H
                                  have Ny147 := Aside0.mk hy147
                                  clear hy147
                                  have H' := Aside0.mk H
                                  clear H
                                  obtain ⟨Ao33, co33, eo33⟩ := Kd.R_slice HO_10.out
                                  subst eo33
                                  have p141 : 0 ≤ (x13_3 : Int) := of_decide_eq_true (by first | (with_reducible assumption) | assumption)
                                  have q141 : x13_3 < (l2.length : Int) := of_decide_eq_true (by first | (with_reducible assumption) | assumption)
                                  obtain ⟨ad141, A141_0, c141_0, e141, hx141_0, hl141_0, hi141_0⟩ := at_L3 HR2.out x13_3 p141 q141
                                  cases e141
                                  replace hx141_0 := (HB.out.cell (World.block_lt_of_cell? w _ hx141_0)).trans hx141_0
                                  have HR141_0 := Aside0.mk hi141_0
                                  have HC141_0 := Aside0.mk hl141_0
                                  clear hi141_0 hl141_0
                                  replace p141 := eq_true p141
                                  replace q141 := eq_true q141
                                  obtain ⟨Ao35, co35, eo35⟩ := Kd.R_slice HO_14.out
                                  subst eo35
                                  go_wp2_with (first | ((with_reducible refine gate_builtin (b := .append) (xs := #[.tmp 93, .tmp 95]) rfl ?_); (try (refine gate_guard (by rfl) ?_; dsimp only)); at_builtin; refine Kd.S_append (Kd.slice 3 (Kd.int .i64)) (w0 := w) w.heap.size rfl (.tmp 93) (.tmp 95) 26 25 (.slice none 0 0) 24 rfl Try.underlying26 info25 rfl (by decide) (by omega) u12 x12_3 x14_4 [.slice Ao35 x14_4.length co35] (fun k_ => some k_ ≠ (.slice Ao33 x10_2.length co33 : Value).ownBlock) (fun k_ => some k_ = (.slice Ao35 x14_4.length co35 : Value).ownBlock) rfl rfl ?aP (fun k_ hk_ => ((Kd.R_mono (ok' := fun k_ => ((fun k_ => some k_ ≠ (.slice Ao33 x10_2.length co33 : Value).ownBlock)) k_ ∧ some k_ ≠ (u12 : Value).ownBlock) (Kd.R_apart' (HO_14.out) (Kd.S_typed HO_12.out) (by decide)) (fun k_ hk => ⟨hk.1, hk.2⟩))).1 k_ hk_.symm) ?aF ?aO ?aB ?aS ?aL ?_; (case aP => exact Kd.M_row (Kd.R_mono (Kd.R_tight rfl (Kd.R_mono (ok' := fun k_ => ((fun k_ => some k_ ≠ (.slice Ao33 x10_2.length co33 : Value).ownBlock)) k_ ∧ some k_ ≠ (u12 : Value).ownBlock) (Kd.R_apart' (HO_14.out) (Kd.S_typed HO_12.out) (by decide)) (fun k_ hk => ⟨hk.1, hk.2⟩))) (fun _ h_ => h_))); (case aB => exact (by repeat (first | (with_reducible first | exact HB.out | apply below_alloc | apply pw_below_drewN | apply below_drew1) | exact HB.out))); (case aF => exact (fun k_ hk => Kd.fresh' (Kd.R_lt (by (with_reducible repeat (first | apply Kd.R_alloc | apply Kd.R_drewN | apply Kd.R_drew)); exact HO_10.out)) k_ hk)); (case aO => exact (by (with_reducible repeat (first | apply Kd.S_alloc | apply Kd.S_drewN | apply Kd.S_drew)); exact Kd.S_mono HO_12.out (fun k_ hk => ⟨hk.1, fun e_ => hk.2 e_⟩))); (case aS => exact (below_size (by repeat (first | (with_reducible first | exact HB.out | apply below_alloc | apply pw_below_drewN | apply below_drew1) | exact HB.out)))); (case aL => have := LMc32.out; omega); intro v148 w34 ho hb hg hat; rw [← Ny147.out] at ho; have n0_ := Aside0.mk (Kd.R_over' (by (with_reducible repeat (first | apply Kd.R_alloc | apply Kd.R_drewN | apply Kd.R_drew)); exact HO_10.out) (Kd.S_typed (by (with_reducible repeat (first | apply Kd.S_alloc | apply Kd.S_drewN | apply Kd.S_drew)); exact HO_12.out)) (by decide) hg); have n1_ := Aside0.mk (hb); have n2_ := Aside0.mk (ho); clear HO_10; clear HB; clear HO_12; clear HO_14; have HO_10 := n0_; have HB := n1_; have HO149 := n2_; clear n0_ n1_ n2_; clear ho hb hg hat))
                                  go_roundg k4
                                  case measure => have := HJ4.out; have := HK2.out; have := HK3.out; have := HK4.out; omega
                                  case rel => exact ⟨(y147), (wrap64 (x13_3 + 1)), (by first | rfl | (simp; done) | (simp [*]; done)), H', ⟨by have := HJ4.out; have := HK2.out; have := HK3.out; have := HK4.out; omega⟩, ⟨by (with_reducible repeat (first | apply Kd.R_alloc | apply Kd.R_drewN | apply Kd.R_drew)); exact Kd.R_mono HO_10.out (fun _ hk => trivial)⟩, ⟨by (with_reducible repeat (first | apply Kd.S_alloc | apply Kd.S_drewN | apply Kd.S_drew)); exact HO149.out⟩, ⟨by repeat (first | (with_reducible first | exact HB.out | apply below_alloc | apply pw_below_drewN | apply below_drew1) | exact HB.out)⟩⟩
                                · rw [if_neg c32] at H
                                  exact absurd H (by simp)
                            · rw [if_neg c25] at H
                              exact absurd H (by simp)
                          · rw [if_neg c24] at H
                            exact absurd H (by simp)
                        · rw [if_neg c23] at H
                          have c23b0 : decide (x15_4 < (x10_2.length : Int)) = false := decide_eq_false c23
                          clear c23
                          by_cases c36 : x12_3.length < 5864062014805
                          · rw [if_pos c36] at H
                            have LMc36 := Aside0.mk c36
                            clear c36
                            obtain ⟨y150, hy150⟩ : ∃ y_ : List (List Int), y_ = (x12_3 ++ [x14_4]) := ⟨_, rfl⟩
                            replace H : (drumlinelaw15_AgesGrow.l1 k4 a1 l2 (wrap64 (1 + (Int.tmod (wrap64 (a3)) 200))) x10_2 y150 (wrap64 (x13_3 + 1))) = some r := by first | (rw [hy150]; with_reducible exact H) | (have H2_ := (Option.bind_some _ _).symm.trans H; rw [hy150]; with_reducible exact H2_) | (have H2_ := (Option.bind_some _ _).symm.trans H; with_reducible exact H2_) | with_reducible exact H | (rw [hy150]; exact H) | exact H
                            have Ny150 := Aside0.mk hy150
                            clear hy150
                            have H' := Aside0.mk H
                            clear H
                            obtain ⟨Ao37, co37, eo37⟩ := Kd.R_slice HO_10.out
                            subst eo37
                            obtain ⟨Ao39, co39, eo39⟩ := Kd.R_slice HO_14.out
                            subst eo39
                            go_wp2_with (first | ((with_reducible refine gate_builtin (b := .append) (xs := #[.tmp 93, .tmp 95]) rfl ?_); (try (refine gate_guard (by rfl) ?_; dsimp only)); at_builtin; refine Kd.S_append (Kd.slice 3 (Kd.int .i64)) (w0 := w) w.heap.size rfl (.tmp 93) (.tmp 95) 26 25 (.slice none 0 0) 24 rfl Try.underlying26 info25 rfl (by decide) (by omega) u12 x12_3 x14_4 [.slice Ao39 x14_4.length co39] (fun k_ => some k_ ≠ (.slice Ao37 x10_2.length co37 : Value).ownBlock) (fun k_ => some k_ = (.slice Ao39 x14_4.length co39 : Value).ownBlock) rfl rfl ?aP (fun k_ hk_ => ((Kd.R_mono (ok' := fun k_ => ((fun k_ => some k_ ≠ (.slice Ao37 x10_2.length co37 : Value).ownBlock)) k_ ∧ some k_ ≠ (u12 : Value).ownBlock) (Kd.R_apart' (HO_14.out) (Kd.S_typed HO_12.out) (by decide)) (fun k_ hk => ⟨hk.1, hk.2⟩))).1 k_ hk_.symm) ?aF ?aO ?aB ?aS ?aL ?_; (case aP => exact Kd.M_row (Kd.R_mono (Kd.R_tight rfl (Kd.R_mono (ok' := fun k_ => ((fun k_ => some k_ ≠ (.slice Ao37 x10_2.length co37 : Value).ownBlock)) k_ ∧ some k_ ≠ (u12 : Value).ownBlock) (Kd.R_apart' (HO_14.out) (Kd.S_typed HO_12.out) (by decide)) (fun k_ hk => ⟨hk.1, hk.2⟩))) (fun _ h_ => h_))); (case aB => exact (by repeat (first | (with_reducible first | exact HB.out | apply below_alloc | apply pw_below_drewN | apply below_drew1) | exact HB.out))); (case aF => exact (fun k_ hk => Kd.fresh' (Kd.R_lt (by (with_reducible repeat (first | apply Kd.R_alloc | apply Kd.R_drewN | apply Kd.R_drew)); exact HO_10.out)) k_ hk)); (case aO => exact (by (with_reducible repeat (first | apply Kd.S_alloc | apply Kd.S_drewN | apply Kd.S_drew)); exact Kd.S_mono HO_12.out (fun k_ hk => ⟨hk.1, fun e_ => hk.2 e_⟩))); (case aS => exact (below_size (by repeat (first | (with_reducible first | exact HB.out | apply below_alloc | apply pw_below_drewN | apply below_drew1) | exact HB.out)))); (case aL => have := LMc36.out; omega); intro v151 w38 ho hb hg hat; rw [← Ny150.out] at ho; have n0_ := Aside0.mk (Kd.R_over' (by (with_reducible repeat (first | apply Kd.R_alloc | apply Kd.R_drewN | apply Kd.R_drew)); exact HO_10.out) (Kd.S_typed (by (with_reducible repeat (first | apply Kd.S_alloc | apply Kd.S_drewN | apply Kd.S_drew)); exact HO_12.out)) (by decide) hg); have n1_ := Aside0.mk (hb); have n2_ := Aside0.mk (ho); clear HO_10; clear HB; clear HO_12; clear HO_14; have HO_10 := n0_; have HB := n1_; have HO152 := n2_; clear n0_ n1_ n2_; clear ho hb hg hat))
                            go_roundg k4
                            case measure => have := HJ4.out; have := HK2.out; have := HK3.out; have := HK4.out; omega
                            case rel => exact ⟨(y150), (wrap64 (x13_3 + 1)), (by first | rfl | (simp; done) | (simp [*]; done)), H', ⟨by have := HJ4.out; have := HK2.out; have := HK3.out; have := HK4.out; omega⟩, ⟨by (with_reducible repeat (first | apply Kd.R_alloc | apply Kd.R_drewN | apply Kd.R_drew)); exact Kd.R_mono HO_10.out (fun _ hk => trivial)⟩, ⟨by (with_reducible repeat (first | apply Kd.S_alloc | apply Kd.S_drewN | apply Kd.S_drew)); exact HO152.out⟩, ⟨by repeat (first | (with_reducible first | exact HB.out | apply below_alloc | apply pw_below_drewN | apply below_drew1) | exact HB.out)⟩⟩
                          · rw [if_neg c36] at H
                            exact absurd H (by simp)
                  · rw [if_neg c22] at H
                    have c22b0 : decide (x13_3 < (l2.length : Int)) = false := decide_eq_false c22
                    clear c22
                    by_cases c40 : (x10_2.length : Int) = 0
                    · rw [if_pos c40] at H
                      exact absurd H (by simp)
                    · rw [if_neg c40] at H
                      have c40b0 : ((x10_2.length : Int) == 0) = false := beq_eq_false_iff_ne.mpr c40
                      have c40b1 : ((x10_2.length : Int) != 0) = true := bne_iff_ne.mpr c40
                      have c40b2 : ¬ (x10_2 = []) := fun h_ => c40 (by rw [h_]; rfl)
                      replace H := Option.bind_eq_some_iff.mp H
                      obtain ⟨t153, A410, H⟩ := H
                      replace H : (if (t153.length : Int) = (x10_2.length : Int) then (if 0 ≤ (Int.tmod (wrap64 (a1)) (x10_2.length : Int)) then (if (Int.tmod (wrap64 (a1)) (x10_2.length : Int)) < (t153.length : Int) then (drumlinelaw15_AgesGrow.j4 k3 (wrap64 (1 + (Int.tmod (wrap64 (a3)) 200))) x10_2 x12_3 (Int.tmod (wrap64 (a1)) (x10_2.length : Int)) t153 ((rd t153 (Int.tmod (wrap64 (a1)) (x10_2.length : Int))) != 0)) else (none)) else (none)) else (drumlinelaw15_AgesGrow.j4 k3 (wrap64 (1 + (Int.tmod (wrap64 (a3)) 200))) x10_2 x12_3 (Int.tmod (wrap64 (a1)) (x10_2.length : Int)) t153 true)) = some r := H
                      have A41 := Aside0.mk A410
                      clear A410
                      have HC42 := Aside0.mk H
                      clear H
                      obtain ⟨Ao43, co43, eo43⟩ := Kd.R_slice HO_10.out
                      subst eo43
                      obtain ⟨Ao44, co44, eo44⟩ := Kd.S_slice HO_12.out
                      subst eo44
                      go_upto_region 21 with (first | ((with_reducible refine gate_callee (f := 15) rfl ?_); refine goesL_ (some 106) rfl rfl Try.func15 (by kernel_rfl) rfl #[.slice Ao43 x10_2.length co43, .int .i64 (Int.tmod (wrap64 (a1)) (x10_2.length : Int)), .slice Ao44 x12_3.length co44, .int .i64 (wrap64 (1 + (Int.tmod (wrap64 (a3)) 200)))] rfl (by (try simp only [List.map_toArray, List.map_cons, List.map_nil]); first | done | rfl | (simp only [List.length_drop, List.length_take]; rfl)) ?_; (with_reducible refine (ages_Next.calls k3 _ _ x10_2 (Int.tmod (wrap64 (a1)) (x10_2.length : Int)) _ _ x12_3 (wrap64 (1 + (Int.tmod (wrap64 (a3)) 200))) t153 _ ?side1 ?side2 ?side3 ?side4 A41.out).mono ?_); (case side1 => repeat (first | exact (Kd.R_reads' HO_10.out).2.2 | (with_reducible refine Kd.C_alloc ?_ _) | (with_reducible refine Kd.C_drewN ?_ _) | (with_reducible refine Kd.C_drew ?_))); (case side2 => exact (Kd.R_reads' HO_10.out).2.1); (case side3 => repeat (first | exact (Kd.S_reads' HO_12.out).2.2 | (with_reducible refine Kd.C_alloc ?_ _) | (with_reducible refine Kd.C_drewN ?_ _) | (with_reducible refine Kd.C_drew ?_))); (case side4 => exact (Kd.S_reads' HO_12.out).2.1); rintro e w45 ⟨v154, rfl, ho0, hb⟩; refine ⟨_, rfl, ?_⟩; have n0_ := Aside0.mk (Kd.R_elder' (by (with_reducible repeat (first | apply Kd.R_alloc | apply Kd.R_drewN | apply Kd.R_drew)); exact HO_10.out) (Kd.R_base ho0) hb); have n1_ := Aside0.mk (Kd.S_elder' (by (with_reducible repeat (first | apply Kd.S_alloc | apply Kd.S_drewN | apply Kd.S_drew)); exact HO_12.out) (Kd.R_base ho0) hb); have n2_ := Aside0.mk (Kd.R_lower (Kd.R_new' ho0 (Kd.R_lt (by (with_reducible repeat (first | apply Kd.R_alloc | apply Kd.R_drewN | apply Kd.R_drew)); exact HO_10.out))) (below_size (by repeat (first | (with_reducible first | exact HB.out | apply below_alloc | apply pw_below_drewN | apply below_drew1) | exact HB.out)))); have n3_ := Aside0.mk (below_step (by repeat (first | (with_reducible first | exact HB.out | apply below_alloc | apply pw_below_drewN | apply below_drew1) | exact HB.out)) hb); clear HO_10; clear HO_12; clear HB; have HO_10 := n0_; have HO_12 := n1_; have HO155 := n2_; have HB := n3_; clear n0_ n1_ n2_ n3_; (try clear hb); (try clear hb2); (try clear hk); (try clear hi); (try clear ho0)))
                      (try simp only [Act.put, List.setIfInBounds_toArray, List.set_cons_zero, List.set_cons_succ])
                      go_cut [118] (fun v118 wc => ∃ (kq : Nat) (x118_41 : Bool), v118 = .bool x118_41 ∧ Aside0 (drumlinelaw15_AgesGrow.j4 kq (wrap64 (1 + (Int.tmod (wrap64 (a3)) 200))) x10_2 x12_3 (Int.tmod (wrap64 (a1)) (x10_2.length : Int)) t153 x118_41 = some r) ∧ Aside0 (kq ≤ k3) ∧ Aside0 (Kd.R (Kd.int .i64) 3 wc w.heap.size (fun k_ => some k_ ≠ (v154 : Value).ownBlock) (.slice Ao43 x10_2.length co43) x10_2) ∧ Aside0 (Kd.S (Kd.slice 3 (Kd.int .i64)) 25 wc w.heap.size (fun k_ => some k_ ≠ ((.slice Ao43 x10_2.length co43) : Value).ownBlock ∧ some k_ ≠ (v154 : Value).ownBlock) (.slice Ao44 x12_3.length co44) x12_3) ∧ Aside0 (Kd.R (Kd.int .i64) 3 wc w.heap.size (fun k_ => some k_ ≠ ((.slice Ao43 x10_2.length co43) : Value).ownBlock) v154 t153) ∧ Aside0 (Below w.heap.size w wc))
                      case first =>
                        have H := HC42.out
                        clear HC42
                        by_cases c46 : (t153.length : Int) = (x10_2.length : Int)
                        · rw [if_pos c46] at H
                          have c46b0 : ((t153.length : Int) == (x10_2.length : Int)) = true := beq_iff_eq.mpr c46
                          have c46b1 : ((t153.length : Int) != (x10_2.length : Int)) = false := bne_eq_false_iff_eq.mpr c46
                          have c46b2 : (t153.length == x10_2.length) = true := by first | simpa using c46 | (simp at c46 ⊢; omega)
                          clear c46
                          (first | rw [c46b0] | (simp only [i64_w, i32_w]; rw [c46b0]) | skip)
                          obtain ⟨ji47, hji47⟩ : ∃ j_ : Int, (Int.tmod (wrap64 (a1)) (x10_2.length : Int)) = j_ := ⟨_, rfl⟩
                          replace H : (if 0 ≤ (ji47) then (if (ji47) < (t153.length : Int) then (drumlinelaw15_AgesGrow.j4 k3 (wrap64 (1 + (Int.tmod (wrap64 (a3)) 200))) x10_2 x12_3 ji47 t153 ((rd t153 (ji47)) != 0)) else (none)) else (none)) = some r := by first | (rw [hji47] at H; exact H) | (simp only [hji47] at H ⊢; exact H)
                          by_cases c48 : 0 ≤ (ji47)
                          · rw [if_pos c48] at H
                            have c48b0 : decide (0 ≤ (ji47)) = true := decide_eq_true c48
                            clear c48
                            by_cases c49 : (ji47) < (t153.length : Int)
                            · rw [if_pos c49] at H
                              have c49b0 : decide ((ji47) < (t153.length : Int)) = true := decide_eq_true c49
                              clear c49
                              have H' := Aside0.mk H
                              clear H
                              obtain ⟨Ao50, co50, eo50⟩ := Kd.R_slice HO155.out
                              subst eo50
                              have p156 : 0 ≤ ((ji47) : Int) := of_decide_eq_true (by first | (with_reducible assumption) | assumption)
                              have q156 : (ji47) < (t153.length : Int) := of_decide_eq_true (by first | (with_reducible assumption) | assumption)
                              obtain ⟨ad156, e156, hx156_0⟩ := Kd.at_int (Kd.R_reads' HO155.out).2.2 (ji47) p156 q156
                              cases e156
                              replace p156 := eq_true p156
                              replace q156 := eq_true q156
                              go_wp2
                              go_meet
                              case rel => exact ⟨_, (((rd t153 (ji47)) != 0)), (by first | rfl | (simp; done) | (simp only [← hji47] <;> (first | rfl | simp)) | (simp [*]; done)), (by first | exact H' | (rw [hji47]; exact H')), ⟨by have := HJ4.out; have := HK2.out; have := HK3.out; first | omega | exact Nat.le_refl _⟩, ⟨by (with_reducible repeat (first | apply Kd.R_alloc | apply Kd.R_drewN | apply Kd.R_drew)); exact Kd.R_mono HO_10.out (fun _ hk => hk.2)⟩, ⟨by (with_reducible repeat (first | apply Kd.S_alloc | apply Kd.S_drewN | apply Kd.S_drew)); exact HO_12.out⟩, ⟨by (with_reducible repeat (first | apply Kd.R_alloc | apply Kd.R_drewN | apply Kd.R_drew)); exact Kd.R_mono HO155.out (fun _ hk => hk.2)⟩, ⟨by repeat (first | (with_reducible first | exact HB.out | apply below_alloc | apply pw_below_drewN | apply below_drew1) | exact HB.out)⟩⟩
                            · rw [if_neg c49] at H
                              exact absurd H (by simp)
                          · rw [if_neg c48] at H
                            exact absurd H (by simp)
                        · rw [if_neg c46] at H
                          have c46b0 : ((t153.length : Int) == (x10_2.length : Int)) = false := beq_eq_false_iff_ne.mpr c46
                          have c46b1 : ((t153.length : Int) != (x10_2.length : Int)) = true := bne_iff_ne.mpr c46
                          have c46b2 : (t153.length == x10_2.length) = false := by first | simpa using c46 | (simp at c46 ⊢; omega)
                          (first | rw [c46b0] | (simp only [i64_w, i32_w]; rw [c46b0]) | skip)
                          have H' := Aside0.mk H
                          clear H
                          obtain ⟨Ao51, co51, eo51⟩ := Kd.R_slice HO155.out
                          subst eo51
                          go_wp2
                          go_meet
                          case rel => exact ⟨_, (true), (by first | rfl | (simp; done) | (simp [*]; done)), H', ⟨by have := HJ4.out; have := HK2.out; have := HK3.out; first | omega | exact Nat.le_refl _⟩, ⟨by (with_reducible repeat (first | apply Kd.R_alloc | apply Kd.R_drewN | apply Kd.R_drew)); exact Kd.R_mono HO_10.out (fun _ hk => hk.2)⟩, ⟨by (with_reducible repeat (first | apply Kd.S_alloc | apply Kd.S_drewN | apply Kd.S_drew)); exact HO_12.out⟩, ⟨by (with_reducible repeat (first | apply Kd.R_alloc | apply Kd.R_drewN | apply Kd.R_drew)); exact Kd.R_mono HO155.out (fun _ hk => hk.2)⟩, ⟨by repeat (first | (with_reducible first | exact HB.out | apply below_alloc | apply pw_below_drewN | apply below_drew1) | exact HB.out)⟩⟩
                      case rest =>
                        clear HC42
                        try clear c1
                        try clear p1
                        try clear q1
                        try clear hx1
                        try clear c2
                        try clear p2
                        try clear c3
                        try clear c4
                        try clear p6
                        try clear c7
                        try clear c8
                        try clear c8b0
                        try clear c8b1
                        try clear c8b2
                        try clear c10
                        try clear c10b0
                        try clear c10b1
                        try clear p13
                        try clear q13
                        try clear hx13
                        try clear c14
                        try clear p14
                        try clear q14
                        try clear hx14
                        try clear c15
                        try clear p15
                        try clear q15
                        try clear hx15
                        try clear c17
                        try clear c17b0
                        try clear c18
                        try clear c18b0
                        try clear c20
                        try clear c22
                        try clear c22b0
                        try clear c23
                        try clear c23b0
                        try clear c24
                        try clear c24b0
                        try clear c25
                        try clear c25b0
                        try clear c26
                        try clear c26b0
                        try clear c27
                        try clear c27b0
                        try clear c29
                        try clear c32
                        try clear c36
                        try clear c40
                        try clear c40b0
                        try clear c40b1
                        try clear c40b2
                        try clear c46
                        try clear c46b0
                        try clear c46b1
                        try clear c46b2
                        try clear c48
                        try clear c48b0
                        try clear c49
                        try clear c49b0
                        try clear hx137_0
                        try clear hx141_0
                        try clear hx142_0
                        try clear hx143_0
                        try clear hx156_0
                        try clear p1
                        try clear p13
                        try clear p137
                        try clear p141
                        try clear p142
                        try clear p143
                        try clear p156
                        try clear p2
                        try clear p6
                        try clear q1
                        try clear q13
                        try clear q137
                        try clear q141
                        try clear q142
                        try clear q143
                        try clear q156
                        obtain ⟨kq, x118_41, rfl, HA, HJ41, HO_10, HO_12, HO_17, HB⟩ := hcut
                        cases kq with
                        | zero => exact absurd HA.out (by simp [drumlinelaw15_AgesGrow.j4])
                        | succ kj41 =>
                          have H := HA.out
                          clear HA
                          simp only [drumlinelaw15_AgesGrow.j4] at H
                          by_cases c52 : x118_41 = true
                          · subst c52
                            have H1 : (some false) = some r := by rw [if_pos rfl] at H; exact H
                            clear H
                            have H := H1
                            clear H1
                            obtain rfl := Option.some.inj H
                            go_wp2
                            go_ret
                            exact ⟨by first | rfl | (simp [errW_none, errW_some] <;> rfl) | (simp [*, errW_none, errW_some] <;> rfl), by repeat (first | (with_reducible first | exact HB.out | apply below_alloc | apply pw_below_drewN | apply below_drew1) | exact HB.out)⟩
                          · replace c52 := Bool.eq_false_iff.mpr c52
                            subst c52
                            have H1 : (drumlinelaw15_AgesGrow.l3 kj41 (wrap64 (1 + (Int.tmod (wrap64 (a3)) 200))) x10_2 x12_3 (Int.tmod (wrap64 (a1)) (x10_2.length : Int)) t153 0) = some r := by rw [if_neg (show ¬ (false = true) by decide)] at H; exact H
                            clear H
                            have H := H1
                            clear H1
                            have H' := Aside0.mk H
                            clear H
                            go_wp2
                            go_loopg [18] kj41 (fun kq v18 w' => ∃ (x18_5 : Int), v18 = .int .i64 x18_5 ∧ Aside0 (drumlinelaw15_AgesGrow.l3 kq (wrap64 (1 + (Int.tmod (wrap64 (a3)) 200))) x10_2 x12_3 (Int.tmod (wrap64 (a1)) (x10_2.length : Int)) t153 x18_5 = some r) ∧ Aside0 (kq ≤ kj41) ∧ Aside0 (Kd.R (Kd.int .i64) 3 w' w.heap.size (fun k_ => some k_ ≠ (v154 : Value).ownBlock) (.slice Ao43 x10_2.length co43) x10_2) ∧ Aside0 (Kd.S (Kd.slice 3 (Kd.int .i64)) 25 w' w.heap.size (fun k_ => some k_ ≠ ((.slice Ao43 x10_2.length co43) : Value).ownBlock ∧ some k_ ≠ (v154 : Value).ownBlock) (.slice Ao44 x12_3.length co44) x12_3) ∧ Aside0 (Kd.R (Kd.int .i64) 3 w' w.heap.size (fun k_ => some k_ ≠ ((.slice Ao43 x10_2.length co43) : Value).ownBlock) v154 t153) ∧ Aside0 (Below w.heap.size w w'))
                            case atStart => exact ⟨(0), (by first | rfl | (simp; done) | (simp [*]; done)), H', ⟨Nat.le_refl _⟩, ⟨by (with_reducible repeat (first | apply Kd.R_alloc | apply Kd.R_drewN | apply Kd.R_drew)); exact HO_10.out⟩, ⟨by (with_reducible repeat (first | apply Kd.S_alloc | apply Kd.S_drewN | apply Kd.S_drew)); exact HO_12.out⟩, ⟨by (with_reducible repeat (first | apply Kd.R_alloc | apply Kd.R_drewN | apply Kd.R_drew)); exact HO_17.out⟩, ⟨by repeat (first | (with_reducible first | exact HB.out | apply below_alloc | apply pw_below_drewN | apply below_drew1) | exact HB.out)⟩⟩
                            case round =>
                              clear H'
                              try clear c1
                              try clear p1
                              try clear q1
                              try clear hx1
                              try clear c2
                              try clear p2
                              try clear c3
                              try clear c4
                              try clear c5
                              try clear p6
                              try clear c7
                              try clear c8
                              try clear c8b0
                              try clear c8b1
                              try clear c8b2
                              try clear c10
                              try clear c10b0
                              try clear c10b1
                              try clear p13
                              try clear q13
                              try clear hx13
                              try clear c14
                              try clear p14
                              try clear q14
                              try clear hx14
                              try clear c15
                              try clear p15
                              try clear q15
                              try clear hx15
                              try clear c17
                              try clear c17b0
                              try clear c18
                              try clear c18b0
                              try clear c20
                              try clear c22
                              try clear c22b0
                              try clear c23
                              try clear c23b0
                              try clear c24
                              try clear c24b0
                              try clear c25
                              try clear c25b0
                              try clear c26
                              try clear c26b0
                              try clear c27
                              try clear c27b0
                              try clear c29
                              try clear c32
                              try clear c36
                              try clear c40
                              try clear c40b0
                              try clear c40b1
                              try clear c40b2
                              try clear c46
                              try clear c46b0
                              try clear c46b1
                              try clear c46b2
                              try clear c48
                              try clear c48b0
                              try clear c49
                              try clear c49b0
                              try clear c52
                              try clear hx137_0
                              try clear hx141_0
                              try clear hx142_0
                              try clear hx143_0
                              try clear hx156_0
                              try clear p1
                              try clear p13
                              try clear p137
                              try clear p14
                              try clear p141
                              try clear p142
                              try clear p143
                              try clear p15
                              try clear p156
                              try clear p2
                              try clear p6
                              try clear q1
                              try clear q13
                              try clear q137
                              try clear q14
                              try clear q141
                              try clear q142
                              try clear q143
                              try clear q15
                              try clear q156
                              obtain ⟨x18_5, rfl, HA, HK5, HO_10, HO_12, HO_17, HB⟩ := hrel
                              cases gk with
                              | zero => exact absurd HA.out (by simp [drumlinelaw15_AgesGrow.l3])
                              | succ k5 =>
                                have H := HA.out
                                clear HA
                                simp only [drumlinelaw15_AgesGrow.l3] at H
                                by_cases c53 : x18_5 < (x10_2.length : Int)
                                · rw [if_pos c53] at H
                                  have c53b0 : decide (x18_5 < (x10_2.length : Int)) = true := decide_eq_true c53
                                  clear c53
                                  by_cases c54 : x18_5 = (Int.tmod (wrap64 (a1)) (x10_2.length : Int))
                                  · rw [if_pos c54] at H
                                    have c54b0 : (x18_5 == (Int.tmod (wrap64 (a1)) (x10_2.length : Int))) = true := beq_iff_eq.mpr c54
                                    have c54b1 : (x18_5 != (Int.tmod (wrap64 (a1)) (x10_2.length : Int))) = false := bne_eq_false_iff_eq.mpr c54
                                    clear c54
                                    have H' := Aside0.mk H
                                    clear H
                                    go_wp2
                                    go_roundg k5
                                    case measure => have := HJ4.out; have := HK2.out; have := HK3.out; have := HJ41.out; have := HK5.out; omega
                                    case rel => exact ⟨(wrap64 (x18_5 + 1)), (by first | rfl | (simp; done) | (simp [*]; done)), H', ⟨by have := HJ4.out; have := HK2.out; have := HK3.out; have := HJ41.out; have := HK5.out; omega⟩, ⟨by (with_reducible repeat (first | apply Kd.R_alloc | apply Kd.R_drewN | apply Kd.R_drew)); exact HO_10.out⟩, ⟨by (with_reducible repeat (first | apply Kd.S_alloc | apply Kd.S_drewN | apply Kd.S_drew)); exact HO_12.out⟩, ⟨by (with_reducible repeat (first | apply Kd.R_alloc | apply Kd.R_drewN | apply Kd.R_drew)); exact HO_17.out⟩, ⟨by repeat (first | (with_reducible first | exact HB.out | apply below_alloc | apply pw_below_drewN | apply below_drew1) | exact HB.out)⟩⟩
                                  · rw [if_neg c54] at H
                                    have c54b0 : (x18_5 == (Int.tmod (wrap64 (a1)) (x10_2.length : Int))) = false := beq_eq_false_iff_ne.mpr c54
                                    have c54b1 : (x18_5 != (Int.tmod (wrap64 (a1)) (x10_2.length : Int))) = true := bne_iff_ne.mpr c54
                                    by_cases c55 : 0 ≤ x18_5
                                    · rw [if_pos c55] at H
                                      have c55b0 : decide (0 ≤ x18_5) = true := decide_eq_true c55
                                      clear c55
                                      have H' := Aside0.mk H
                                      clear H
                                      have p157 : 0 ≤ (x18_5 : Int) := of_decide_eq_true (by first | (with_reducible assumption) | assumption)
                                      have q157 : x18_5 < (x10_2.length : Int) := of_decide_eq_true (by first | (with_reducible assumption) | assumption)
                                      obtain ⟨ad157, e157, hx157_0⟩ := Kd.at_int (Kd.R_reads' HO_10.out).2.2 x18_5 p157 q157
                                      cases e157
                                      replace p157 := eq_true p157
                                      replace q157 := eq_true q157
                                      go_wp2
                                      go_loopg [19, 20] k5 (fun kq v19 v20 w' => ∃ (x19_6 : Int) (x20_6 : Int), v19 = .int .i64 x19_6 ∧ v20 = .int .i64 x20_6 ∧ Aside0 (drumlinelaw15_AgesGrow.l4 kq (wrap64 (1 + (Int.tmod (wrap64 (a3)) 200))) x10_2 x12_3 (Int.tmod (wrap64 (a1)) (x10_2.length : Int)) t153 x18_5 x19_6 x20_6 = some r) ∧ Aside0 (kq ≤ k5) ∧ Aside0 (Kd.R (Kd.int .i64) 3 w' w.heap.size (fun k_ => some k_ ≠ (v154 : Value).ownBlock) (.slice (some ad157) x10_2.length co43) x10_2) ∧ Aside0 (Kd.S (Kd.slice 3 (Kd.int .i64)) 25 w' w.heap.size (fun k_ => some k_ ≠ ((.slice (some ad157) x10_2.length co43) : Value).ownBlock ∧ some k_ ≠ (v154 : Value).ownBlock) (.slice Ao44 x12_3.length co44) x12_3) ∧ Aside0 (Kd.R (Kd.int .i64) 3 w' w.heap.size (fun k_ => some k_ ≠ ((.slice (some ad157) x10_2.length co43) : Value).ownBlock) v154 t153) ∧ Aside0 (Below w.heap.size w w'))
                                      case atStart => exact ⟨(rd x10_2 x18_5), (0), (by first | rfl | (simp; done) | (simp [*]; done)), (by first | rfl | (simp; done) | (simp [*]; done)), H', ⟨Nat.le_refl _⟩, ⟨by (with_reducible repeat (first | apply Kd.R_alloc | apply Kd.R_drewN | apply Kd.R_drew)); exact HO_10.out⟩, ⟨by (with_reducible repeat (first | apply Kd.S_alloc | apply Kd.S_drewN | apply Kd.S_drew)); exact HO_12.out⟩, ⟨by (with_reducible repeat (first | apply Kd.R_alloc | apply Kd.R_drewN | apply Kd.R_drew)); exact HO_17.out⟩, ⟨by repeat (first | (with_reducible first | exact HB.out | apply below_alloc | apply pw_below_drewN | apply below_drew1) | exact HB.out)⟩⟩
                                      case round =>
                                        clear H'
                                        try clear c1
                                        try clear p1
                                        try clear q1
                                        try clear hx1
                                        try clear c2
                                        try clear p2
                                        try clear c3
                                        try clear c4
                                        try clear c5
                                        try clear p6
                                        try clear c7
                                        try clear c8
                                        try clear c8b0
                                        try clear c8b1
                                        try clear c8b2
                                        try clear c10
                                        try clear c10b0
                                        try clear c10b1
                                        try clear p13
                                        try clear q13
                                        try clear hx13
                                        try clear c14
                                        try clear p14
                                        try clear q14
                                        try clear hx14
                                        try clear c15
                                        try clear p15
                                        try clear q15
                                        try clear hx15
                                        try clear c17
                                        try clear c17b0
                                        try clear c18
                                        try clear c18b0
                                        try clear c20
                                        try clear c22
                                        try clear c22b0
                                        try clear c23
                                        try clear c23b0
                                        try clear c24
                                        try clear c24b0
                                        try clear c25
                                        try clear c25b0
                                        try clear c26
                                        try clear c26b0
                                        try clear c27
                                        try clear c27b0
                                        try clear c29
                                        try clear c32
                                        try clear c36
                                        try clear c40
                                        try clear c40b0
                                        try clear c40b1
                                        try clear c40b2
                                        try clear c46
                                        try clear c46b0
                                        try clear c46b1
                                        try clear c46b2
                                        try clear c48
                                        try clear c48b0
                                        try clear c49
                                        try clear c49b0
                                        try clear c52
                                        try clear c53
                                        try clear c53b0
                                        try clear c54
                                        try clear c54b0
                                        try clear c54b1
                                        try clear c55
                                        try clear c55b0
                                        try clear hx137_0
                                        try clear hx141_0
                                        try clear hx142_0
                                        try clear hx143_0
                                        try clear hx156_0
                                        try clear hx157_0
                                        try clear p1
                                        try clear p13
                                        try clear p137
                                        try clear p14
                                        try clear p141
                                        try clear p142
                                        try clear p143
                                        try clear p15
                                        try clear p156
                                        try clear p157
                                        try clear p2
                                        try clear p6
                                        try clear q1
                                        try clear q13
                                        try clear q137
                                        try clear q14
                                        try clear q141
                                        try clear q142
                                        try clear q143
                                        try clear q15
                                        try clear q156
                                        try clear q157
                                        obtain ⟨x19_6, x20_6, rfl, rfl, HA, HK6, HO_10, HO_12, HO_17, HB⟩ := hrel
                                        cases gk with
                                        | zero => exact absurd HA.out (by simp [drumlinelaw15_AgesGrow.l4])
                                        | succ k6 =>
                                          have H := HA.out
                                          clear HA
                                          simp only [drumlinelaw15_AgesGrow.l4] at H
                                          by_cases c56 : x20_6 < (x12_3.length : Int)
                                          · rw [if_pos c56] at H
                                            have c56b0 : decide (x20_6 < (x12_3.length : Int)) = true := decide_eq_true c56
                                            clear c56
                                            by_cases c57 : 0 ≤ x20_6
                                            · rw [if_pos c57] at H
                                              have c57b0 : decide (0 ≤ x20_6) = true := decide_eq_true c57
                                              clear c57
                                              by_cases c58 : x18_5 < ((rd_L1 x12_3 x20_6).length : Int)
                                              · rw [if_pos c58] at H
                                                have c58b0 : decide (x18_5 < ((rd_L1 x12_3 x20_6).length : Int)) = true := decide_eq_true c58
                                                clear c58
                                                by_cases c59 : 0 ≤ x18_5
                                                · rw [if_pos c59] at H
                                                  have c59b0 : decide (0 ≤ x18_5) = true := decide_eq_true c59
                                                  clear c59
                                                  obtain ⟨ji60, hji60⟩ : ∃ j_ : Int, (mn x19_6 (rd (rd_L1 x12_3 x20_6) x18_5)) = j_ := ⟨_, rfl⟩
                                                  replace H : (drumlinelaw15_AgesGrow.l4 k6 (wrap64 (1 + (Int.tmod (wrap64 (a3)) 200))) x10_2 x12_3 (Int.tmod (wrap64 (a1)) (x10_2.length : Int)) t153 x18_5 ji60 (wrap64 (x20_6 + 1))) = some r := by first | (rw [hji60] at H; exact H) | (simp only [hji60] at H ⊢; exact H)
                                                  have hji60_ : (if (rd (rd_L1 x12_3 x20_6) x18_5) < x19_6 then (rd (rd_L1 x12_3 x20_6) x18_5) else x19_6) = ji60 := hji60
                                                  have H' := Aside0.mk H
                                                  clear H
                                                  have p158 : 0 ≤ (x20_6 : Int) := of_decide_eq_true (by first | (with_reducible assumption) | assumption)
                                                  have q158 : x20_6 < (x12_3.length : Int) := of_decide_eq_true (by first | (with_reducible assumption) | assumption)
                                                  obtain ⟨ad158, A158_0, c158_0, e158, hx158_0, hl158_0, hi158_0⟩ := at_L1 (Kd.S_reads' HO_12.out).2.2 x20_6 p158 q158
                                                  cases e158
                                                  obtain ⟨ce158, hce158, hMe158, hcc158⟩ := Kd.S_get HO_12.out [] x20_6 p158 (by first | exact q158 | exact of_decide_eq_true (by first | (with_reducible assumption) | assumption) | (have e_ := (Kd.S_reads' HO_12.out).1; omega))
                                                  obtain ⟨ve158_0, rfl, ge158_0⟩ := hMe158
                                                  have hv158_0 := hcc158 0 _ rfl
                                                  rw [Nat.add_zero, show ((Kd.slice 3 (Kd.int .i64))).sz = 1 from rfl, Nat.mul_one] at hv158_0
                                                  replace hv158_0 := Option.some.inj (hv158_0.symm.trans hx158_0)
                                                  rw [hv158_0] at ge158_0
                                                  have HL158_0 := Aside0.mk (show Kd.R (Kd.int .i64) 3 _ _ _ _ (rd_L1 x12_3 x20_6) from ge158_0)
                                                  clear hv158_0 ge158_0
                                                  clear hcc158 hce158
                                                  have HR158_0 := Aside0.mk hi158_0
                                                  have HC158_0 := Aside0.mk hl158_0
                                                  clear hi158_0 hl158_0
                                                  replace p158 := eq_true p158
                                                  replace q158 := eq_true q158
                                                  have p159 : 0 ≤ (x20_6 : Int) := of_decide_eq_true (by first | (with_reducible assumption) | assumption)
                                                  have q159 : x20_6 < (x12_3.length : Int) := of_decide_eq_true (by first | (with_reducible assumption) | assumption)
                                                  obtain ⟨ad159, A159_0, c159_0, e159, hx159_0, hl159_0, hi159_0⟩ := at_L1 (Kd.S_reads' HO_12.out).2.2 x20_6 p159 q159
                                                  obtain rfl : ad158 = ad159 := (by injection e159)
                                                  obtain ⟨ce159, hce159, hMe159, hcc159⟩ := Kd.S_get HO_12.out [] x20_6 p159 (by first | exact q159 | exact of_decide_eq_true (by first | (with_reducible assumption) | assumption) | (have e_ := (Kd.S_reads' HO_12.out).1; omega))
                                                  obtain ⟨ve159_0, rfl, ge159_0⟩ := hMe159
                                                  have hv159_0 := hcc159 0 _ rfl
                                                  rw [Nat.add_zero, show ((Kd.slice 3 (Kd.int .i64))).sz = 1 from rfl, Nat.mul_one] at hv159_0
                                                  replace hv159_0 := Option.some.inj (hv159_0.symm.trans hx159_0)
                                                  rw [hv159_0] at ge159_0
                                                  have HL159_0 := Aside0.mk (show Kd.R (Kd.int .i64) 3 _ _ _ _ (rd_L1 x12_3 x20_6) from ge159_0)
                                                  clear hv159_0 ge159_0
                                                  clear hcc159 hce159
                                                  have HR159_0 := Aside0.mk hi159_0
                                                  have HC159_0 := Aside0.mk hl159_0
                                                  clear hi159_0 hl159_0
                                                  replace p159 := eq_true p159
                                                  replace q159 := eq_true q159
                                                  have ea_ := Option.some.inj (hx158_0.symm.trans hx159_0)
                                                  injection ea_ with ea_ en_ ec_
                                                  subst ea_
                                                  subst ec_
                                                  clear en_
                                                  have p160 : 0 ≤ (x18_5 : Int) := of_decide_eq_true (by first | (with_reducible assumption) | assumption)
                                                  have q160 : x18_5 < ((rd_L1 x12_3 x20_6).length : Int) := of_decide_eq_true (by first | (with_reducible assumption) | assumption)
                                                  obtain ⟨ad160, e160, hx160_0⟩ := Kd.at_int (by repeat (first | (with_reducible exact HR159_0.out) | (with_reducible refine Kd.C_alloc ?_ _) | (with_reducible refine Kd.C_drewN ?_ _) | (with_reducible refine Kd.C_drew ?_) | exact HR159_0.out)) x18_5 p160 q160
                                                  cases e160
                                                  replace p160 := eq_true p160
                                                  replace q160 := eq_true q160
                                                  go_wp2
                                                  go_roundg k6
                                                  case measure => have := HJ4.out; have := HK2.out; have := HK3.out; have := HJ41.out; have := HK5.out; have := HK6.out; omega
                                                  case rel => exact ⟨(ji60), (wrap64 (x20_6 + 1)), (by first | rfl | (simp; done) | (simp only [← hji60] <;> (first | rfl | simp)) | (simp [*]; done)), (by first | rfl | (simp; done) | (simp [*]; done)), H', ⟨by have := HJ4.out; have := HK2.out; have := HK3.out; have := HJ41.out; have := HK5.out; have := HK6.out; omega⟩, ⟨by (with_reducible repeat (first | apply Kd.R_alloc | apply Kd.R_drewN | apply Kd.R_drew)); exact HO_10.out⟩, ⟨by (with_reducible repeat (first | apply Kd.S_alloc | apply Kd.S_drewN | apply Kd.S_drew)); exact HO_12.out⟩, ⟨by (with_reducible repeat (first | apply Kd.R_alloc | apply Kd.R_drewN | apply Kd.R_drew)); exact HO_17.out⟩, ⟨by repeat (first | (with_reducible first | exact HB.out | apply below_alloc | apply pw_below_drewN | apply below_drew1) | exact HB.out)⟩⟩
                                                · rw [if_neg c59] at H
                                                  exact absurd H (by simp)
                                              · rw [if_neg c58] at H
                                                have c58b0 : decide (x18_5 < ((rd_L1 x12_3 x20_6).length : Int)) = false := decide_eq_false c58
                                                clear c58
                                                have H' := Aside0.mk H
                                                clear H
                                                have p158 : 0 ≤ (x20_6 : Int) := of_decide_eq_true (by first | (with_reducible assumption) | assumption)
                                                have q158 : x20_6 < (x12_3.length : Int) := of_decide_eq_true (by first | (with_reducible assumption) | assumption)
                                                obtain ⟨ad158, A158_0, c158_0, e158, hx158_0, hl158_0, hi158_0⟩ := at_L1 (Kd.S_reads' HO_12.out).2.2 x20_6 p158 q158
                                                cases e158
                                                obtain ⟨ce158, hce158, hMe158, hcc158⟩ := Kd.S_get HO_12.out [] x20_6 p158 (by first | exact q158 | exact of_decide_eq_true (by first | (with_reducible assumption) | assumption) | (have e_ := (Kd.S_reads' HO_12.out).1; omega))
                                                obtain ⟨ve158_0, rfl, ge158_0⟩ := hMe158
                                                have hv158_0 := hcc158 0 _ rfl
                                                rw [Nat.add_zero, show ((Kd.slice 3 (Kd.int .i64))).sz = 1 from rfl, Nat.mul_one] at hv158_0
                                                replace hv158_0 := Option.some.inj (hv158_0.symm.trans hx158_0)
                                                rw [hv158_0] at ge158_0
                                                have HL158_0 := Aside0.mk (show Kd.R (Kd.int .i64) 3 _ _ _ _ (rd_L1 x12_3 x20_6) from ge158_0)
                                                clear hv158_0 ge158_0
                                                clear hcc158 hce158
                                                have HR158_0 := Aside0.mk hi158_0
                                                have HC158_0 := Aside0.mk hl158_0
                                                clear hi158_0 hl158_0
                                                replace p158 := eq_true p158
                                                replace q158 := eq_true q158
                                                go_wp2
                                                go_roundg k6
                                                case measure => have := HJ4.out; have := HK2.out; have := HK3.out; have := HJ41.out; have := HK5.out; have := HK6.out; omega
                                                case rel => exact ⟨(x19_6), (wrap64 (x20_6 + 1)), (by first | rfl | (simp; done) | (simp [*]; done)), (by first | rfl | (simp; done) | (simp [*]; done)), H', ⟨by have := HJ4.out; have := HK2.out; have := HK3.out; have := HJ41.out; have := HK5.out; have := HK6.out; omega⟩, ⟨by (with_reducible repeat (first | apply Kd.R_alloc | apply Kd.R_drewN | apply Kd.R_drew)); exact HO_10.out⟩, ⟨by (with_reducible repeat (first | apply Kd.S_alloc | apply Kd.S_drewN | apply Kd.S_drew)); exact HO_12.out⟩, ⟨by (with_reducible repeat (first | apply Kd.R_alloc | apply Kd.R_drewN | apply Kd.R_drew)); exact HO_17.out⟩, ⟨by repeat (first | (with_reducible first | exact HB.out | apply below_alloc | apply pw_below_drewN | apply below_drew1) | exact HB.out)⟩⟩
                                            · rw [if_neg c57] at H
                                              exact absurd H (by simp)
                                          · rw [if_neg c56] at H
                                            have c56b0 : decide (x20_6 < (x12_3.length : Int)) = false := decide_eq_false c56
                                            clear c56
                                            by_cases c61 : 0 ≤ x18_5
                                            · rw [if_pos c61] at H
                                              have c61b0 : decide (0 ≤ x18_5) = true := decide_eq_true c61
                                              clear c61
                                              by_cases c62 : x18_5 < (t153.length : Int)
                                              · rw [if_pos c62] at H
                                                have c62b0 : decide (x18_5 < (t153.length : Int)) = true := decide_eq_true c62
                                                clear c62
                                                obtain ⟨ji63, hji63⟩ : ∃ j_ : Int, (mn (wrap64 (x19_6 + 1)) (wrap64 (1 + (Int.tmod (wrap64 (a3)) 200)))) = j_ := ⟨_, rfl⟩
                                                replace H : (if (rd t153 x18_5) = (ji63) then (drumlinelaw15_AgesGrow.l3 k6 (wrap64 (1 + (Int.tmod (wrap64 (a3)) 200))) x10_2 x12_3 (Int.tmod (wrap64 (a1)) (x10_2.length : Int)) t153 (wrap64 (x18_5 + 1))) else (some false)) = some r := by first | (rw [hji63] at H; exact H) | (simp only [hji63] at H ⊢; exact H)
                                                have hji63_ : (if (wrap64 (1 + (Int.tmod (wrap64 (a3)) 200))) < (wrap64 (x19_6 + 1)) then (wrap64 (1 + (Int.tmod (wrap64 (a3)) 200))) else (wrap64 (x19_6 + 1))) = ji63 := hji63
                                                by_cases c64 : (rd t153 x18_5) = (ji63)
                                                · rw [if_pos c64] at H
                                                  have c64b0 : ((rd t153 x18_5) == (ji63)) = true := beq_iff_eq.mpr c64
                                                  have c64b1 : ((rd t153 x18_5) != (ji63)) = false := bne_eq_false_iff_eq.mpr c64
                                                  clear c64
                                                  have H' := Aside0.mk H
                                                  clear H
                                                  obtain ⟨Ao65, co65, eo65⟩ := Kd.R_slice HO_17.out
                                                  subst eo65
                                                  have p161 : 0 ≤ (x18_5 : Int) := of_decide_eq_true (by first | (with_reducible assumption) | assumption)
                                                  have q161 : x18_5 < (t153.length : Int) := of_decide_eq_true (by first | (with_reducible assumption) | assumption)
                                                  obtain ⟨ad161, e161, hx161_0⟩ := Kd.at_int (Kd.R_reads' HO_17.out).2.2 x18_5 p161 q161
                                                  cases e161
                                                  replace p161 := eq_true p161
                                                  replace q161 := eq_true q161
                                                  go_wp2
                                                  go_roundg k6
                                                  case measure => have := HJ4.out; have := HK2.out; have := HK3.out; have := HJ41.out; have := HK5.out; have := HK6.out; omega
                                                  case rel => exact ⟨(wrap64 (x18_5 + 1)), (by first | rfl | (simp; done) | (simp [*]; done)), H', ⟨by have := HJ4.out; have := HK2.out; have := HK3.out; have := HJ41.out; have := HK5.out; have := HK6.out; omega⟩, ⟨by (with_reducible repeat (first | apply Kd.R_alloc | apply Kd.R_drewN | apply Kd.R_drew)); exact HO_10.out⟩, ⟨by (with_reducible repeat (first | apply Kd.S_alloc | apply Kd.S_drewN | apply Kd.S_drew)); exact HO_12.out⟩, ⟨by (with_reducible repeat (first | apply Kd.R_alloc | apply Kd.R_drewN | apply Kd.R_drew)); exact HO_17.out⟩, ⟨by repeat (first | (with_reducible first | exact HB.out | apply below_alloc | apply pw_below_drewN | apply below_drew1) | exact HB.out)⟩⟩
                                                · rw [if_neg c64] at H
                                                  have c64b0 : ((rd t153 x18_5) == (ji63)) = false := beq_eq_false_iff_ne.mpr c64
                                                  have c64b1 : ((rd t153 x18_5) != (ji63)) = true := bne_iff_ne.mpr c64
                                                  obtain rfl := Option.some.inj H
                                                  obtain ⟨Ao66, co66, eo66⟩ := Kd.R_slice HO_17.out
                                                  subst eo66
                                                  have p161 : 0 ≤ (x18_5 : Int) := of_decide_eq_true (by first | (with_reducible assumption) | assumption)
                                                  have q161 : x18_5 < (t153.length : Int) := of_decide_eq_true (by first | (with_reducible assumption) | assumption)
                                                  obtain ⟨ad161, e161, hx161_0⟩ := Kd.at_int (Kd.R_reads' HO_17.out).2.2 x18_5 p161 q161
                                                  cases e161
                                                  replace p161 := eq_true p161
                                                  replace q161 := eq_true q161
                                                  go_wp2
                                                  go_ret
                                                  exact ⟨by first | rfl | (simp [errW_none, errW_some] <;> rfl) | (simp only [← hji63]; first | rfl | (simp [errW_none, errW_some] <;> rfl)) | (simp [*, errW_none, errW_some] <;> rfl), by repeat (first | (with_reducible first | exact HB.out | apply below_alloc | apply pw_below_drewN | apply below_drew1) | exact HB.out)⟩
                                              · rw [if_neg c62] at H
                                                exact absurd H (by simp)
                                            · rw [if_neg c61] at H
                                              exact absurd H (by simp)
                                    · rw [if_neg c55] at H
                                      exact absurd H (by simp)
                                · rw [if_neg c53] at H
                                  have c53b0 : decide (x18_5 < (x10_2.length : Int)) = false := decide_eq_false c53
                                  clear c53
                                  obtain rfl := Option.some.inj H
                                  go_wp2
                                  go_ret
                                  exact ⟨by first | rfl | (simp [errW_none, errW_some] <;> rfl) | (simp [*, errW_none, errW_some] <;> rfl), by repeat (first | (with_reducible first | exact HB.out | apply below_alloc | apply pw_below_drewN | apply below_drew1) | exact HB.out)⟩

end Go.Proofs.Ythkagdbabkkomaa.PAgesGrow
