-- PRINTED BY print.sh 35421559b90ae4d0a3588c463048766b98c2df88dd9212a6774a882060cdf62d: not written by this session
import Derived.Test.YthkagdbabkkomaaPAgesGonex0
import Derived.Test.YthkagdbabkkomaaPAgesGonex1
namespace Go.Proofs.Ythkagdbabkkomaa.PAgesGone
open Go.RowKit Go.Proofs.YthkagdbabkkomaaW.PrintWords Go.Proofs.YthkagdbabkkomaaW.PrintLast Go.Proofs.YthkagdbabkkomaaW.PrintMore
attribute [local go_sem] max2_int min2_int max_two min_two max_three min_three max_four min_four   -- for this text's walks alone
set_option linter.unusedVariables false
set_option linter.unusedSimpArgs false

/-! ### drumlinelaw15_AgesGone: function 4 -/
mutual
def drumlinelaw15_AgesGone.j0 : Nat → List (List Int) → List Int → Int → Int → Int → Bool → Option (Bool)
  | 0, _, _, _, _, _, _ => none
  | k + 1, x0, x1, x3, x9, x10, x45 => if x45 = true then ((drumlinelaw15_alive.f k).bind fun t136 => (some t136)) else (if x10 = 0 then (none) else (drumlinelaw15_AgesGone.l0 k x0 x1 x9 x10 (Int.tmod (wrap64 (x3)) x10) ([] : List (List Int)) 0))
def drumlinelaw15_AgesGone.l0 : Nat → List (List Int) → List Int → Int → Int → Int → List (List Int) → Int → Option (Bool)
  | 0, _, _, _, _, _, _, _ => none
  | k + 1, x0, x1, x9, x10, x11, x12, x13 => if x13 < x10 then (drumlinelaw15_AgesGone.l1 k x0 x1 x9 x10 x11 x12 x13 ([] : List Int) 0) else (drumlinelaw15_AgesGone.l2 k x1 x9 x10 x11 x12 0)
def drumlinelaw15_AgesGone.l1 : Nat → List (List Int) → List Int → Int → Int → Int → List (List Int) → Int → List Int → Int → Option (Bool)
  | 0, _, _, _, _, _, _, _, _, _ => none
  | k + 1, x0, x1, x9, x10, x11, x12, x13, x14, x15 => if x15 < x10 then (if 0 ≤ x13 then (if x13 < (x0.length : Int) then (if x15 < ((rd_L3 x0 x13).length : Int) then (if 0 ≤ x15 then (if x14.length < 17592186044416 then (drumlinelaw15_AgesGone.l1 k x0 x1 x9 x10 x11 x12 x13 (x14 ++ [mn (wrap64 (rd (rd_L3 x0 x13) x15)) x9]) (wrap64 (x15 + 1))) else (none)) else (none)) else (if x14.length < 17592186044416 then (drumlinelaw15_AgesGone.l1 k x0 x1 x9 x10 x11 x12 x13 (x14 ++ [x9]) (wrap64 (x15 + 1))) else (none))) else (none)) else (none)) else (if x12.length < 5864062014805 then (drumlinelaw15_AgesGone.l0 k x0 x1 x9 x10 x11 (x12 ++ [x14]) (wrap64 (x13 + 1))) else (none))
def drumlinelaw15_AgesGone.l2 : Nat → List Int → Int → Int → Int → List (List Int) → Int → Option (Bool)
  | 0, _, _, _, _, _, _ => none
  | k + 1, x1, x9, x10, x11, x12, x17 => if x17 < x9 then (drumlinelaw15_AgesGone.l3 k x1 x9 x10 x11 x12 x17 ([] : List (List Int)) 0) else (drumlinelaw15_AgesGone.l5 k x9 x10 x11 x12 0)
def drumlinelaw15_AgesGone.l3 : Nat → List Int → Int → Int → Int → List (List Int) → Int → List (List Int) → Int → Option (Bool)
  | 0, _, _, _, _, _, _, _, _ => none
  | k + 1, x1, x9, x10, x11, x12, x17, x18, x19 => if x19 < x10 then (drumlinelaw15_AgesGone.l4 k x1 x9 x10 x11 x12 x17 x18 x19 ([] : List (List Int)) 0) else (drumlinelaw15_AgesGone.l2 k x1 x9 x10 x11 x18 (wrap64 (x17 + 1)))
def drumlinelaw15_AgesGone.l4 : Nat → List Int → Int → Int → Int → List (List Int) → Int → List (List Int) → Int → List (List Int) → Int → Option (Bool)
  | 0, _, _, _, _, _, _, _, _, _, _ => none
  | k + 1, x1, x9, x10, x11, x12, x17, x18, x19, x20, x21 => if x21 < (x1.length : Int) then (if 0 ≤ x21 then (if x10 = 0 then (none) else (if (Int.tmod (wrap64 (Go.bits .and .u8 (rd x1 x21) 15)) x10) = x19 then (drumlinelaw15_AgesGone.j6 k x1 x9 x10 x11 x12 x17 x18 x19 x20 x21 (Int.tmod (wrap64 (Go.bits .and .u8 (rd x1 x21) 15)) x10) (Int.tmod (wrap64 ((rd x1 x21) / 16)) x10) ((Int.tmod (wrap64 ((rd x1 x21) / 16)) x10) != x11)) else (drumlinelaw15_AgesGone.j6 k x1 x9 x10 x11 x12 x17 x18 x19 x20 x21 (Int.tmod (wrap64 (Go.bits .and .u8 (rd x1 x21) 15)) x10) (Int.tmod (wrap64 ((rd x1 x21) / 16)) x10) false))) else (none)) else (if 0 ≤ x19 then (if x19 < (x12.length : Int) then ((ages_Next.f k (rd_L1 x12 x19) x19 x20 x9).bind fun t150 => (if x18.length < 5864062014805 then (drumlinelaw15_AgesGone.l3 k x1 x9 x10 x11 x12 x17 (x18 ++ [t150]) (wrap64 (x19 + 1))) else (none))) else (none)) else (none))
def drumlinelaw15_AgesGone.j6 : Nat → List Int → Int → Int → Int → List (List Int) → Int → List (List Int) → Int → List (List Int) → Int → Int → Int → Bool → Option (Bool)
  | 0, _, _, _, _, _, _, _, _, _, _, _, _, _ => none
  | k + 1, x1, x9, x10, x11, x12, x17, x18, x19, x20, x21, x22, x23, x126 => if x126 = true then (if 0 ≤ x23 then (if x23 < (x12.length : Int) then (if x20.length < 5864062014805 then ((some (x20 ++ [rd_L1 x12 x23] : List (List Int))).bind fun y159 => (if x23 = x19 then (if x22 = x11 then (drumlinelaw15_AgesGone.l4 k x1 x9 x10 x11 x12 x17 x18 x19 y159 (wrap64 (x21 + 1))) else (if 0 ≤ x22 then (if x22 < (x12.length : Int) then (if y159.length < 5864062014805 then (drumlinelaw15_AgesGone.l4 k x1 x9 x10 x11 x12 x17 x18 x19 (y159 ++ [rd_L1 x12 x22]) (wrap64 (x21 + 1))) else (none)) else (none)) else (none))) else (drumlinelaw15_AgesGone.l4 k x1 x9 x10 x11 x12 x17 x18 x19 y159 (wrap64 (x21 + 1))))) else (none)) else (none)) else (none)) else (if x23 = x19 then (if x22 = x11 then (drumlinelaw15_AgesGone.l4 k x1 x9 x10 x11 x12 x17 x18 x19 x20 (wrap64 (x21 + 1))) else (if 0 ≤ x22 then (if x22 < (x12.length : Int) then (if x20.length < 5864062014805 then (drumlinelaw15_AgesGone.l4 k x1 x9 x10 x11 x12 x17 x18 x19 (x20 ++ [rd_L1 x12 x22]) (wrap64 (x21 + 1))) else (none)) else (none)) else (none))) else (drumlinelaw15_AgesGone.l4 k x1 x9 x10 x11 x12 x17 x18 x19 x20 (wrap64 (x21 + 1))))
def drumlinelaw15_AgesGone.l5 : Nat → Int → Int → Int → List (List Int) → Int → Option (Bool)
  | 0, _, _, _, _, _ => none
  | k + 1, x9, x10, x11, x12, x24 => if x24 < x10 then (if x24 = x11 then (drumlinelaw15_AgesGone.l5 k x9 x10 x11 x12 (wrap64 (x24 + 1))) else (if 0 ≤ x24 then (if x24 < (x12.length : Int) then ((ages_Alive.f k (rd_L1 x12 x24) x9).bind fun t171 => (if 0 ≤ (IntKind.u64.wrap (x11)) then (if (Go.bits .and .i64 (shr .i64 t171 (IntKind.u64.wrap (x11))) 1) = 1 then (some false) else (drumlinelaw15_AgesGone.l5 k x9 x10 x11 x12 (wrap64 (x24 + 1)))) else (none))) else (none)) else (none))) else (some true)
end
def drumlinelaw15_AgesGone.f (k : Nat) (l0 : List (List Int)) (l1 : List Int) (a2 : Int) (a3 : Int) : Option (Bool) := (drumlinelaw15_alive.f k).bind fun t135 => (if t135 = true then (if (l0.length : Int) < 2 then (drumlinelaw15_AgesGone.j0 k l0 l1 a3 (wrap64 (1 + (Int.tmod (wrap64 (a2)) 40))) (l0.length : Int) true) else (if (l0.length : Int) > 6 then (drumlinelaw15_AgesGone.j0 k l0 l1 a3 (wrap64 (1 + (Int.tmod (wrap64 (a2)) 40))) (l0.length : Int) true) else (drumlinelaw15_AgesGone.j0 k l0 l1 a3 (wrap64 (1 + (Int.tmod (wrap64 (a2)) 40))) (l0.length : Int) (decide ((l1.length : Int) > 30))))) else (drumlinelaw15_AgesGone.j0 k l0 l1 a3 (wrap64 (1 + (Int.tmod (wrap64 (a2)) 40))) (l0.length : Int) true))
theorem drumlinelaw15_AgesGone.mono_l : ∀ k, (∀ y0 y1 y2 y3 y4 y5, LeO (drumlinelaw15_AgesGone.j0 k y0 y1 y2 y3 y4 y5) (drumlinelaw15_AgesGone.j0 (k + 1) y0 y1 y2 y3 y4 y5)) ∧ (∀ y0 y1 y2 y3 y4 y5 y6, LeO (drumlinelaw15_AgesGone.l0 k y0 y1 y2 y3 y4 y5 y6) (drumlinelaw15_AgesGone.l0 (k + 1) y0 y1 y2 y3 y4 y5 y6)) ∧ (∀ y0 y1 y2 y3 y4 y5 y6 y7 y8, LeO (drumlinelaw15_AgesGone.l1 k y0 y1 y2 y3 y4 y5 y6 y7 y8) (drumlinelaw15_AgesGone.l1 (k + 1) y0 y1 y2 y3 y4 y5 y6 y7 y8)) ∧ (∀ y0 y1 y2 y3 y4 y5, LeO (drumlinelaw15_AgesGone.l2 k y0 y1 y2 y3 y4 y5) (drumlinelaw15_AgesGone.l2 (k + 1) y0 y1 y2 y3 y4 y5)) ∧ (∀ y0 y1 y2 y3 y4 y5 y6 y7, LeO (drumlinelaw15_AgesGone.l3 k y0 y1 y2 y3 y4 y5 y6 y7) (drumlinelaw15_AgesGone.l3 (k + 1) y0 y1 y2 y3 y4 y5 y6 y7)) ∧ (∀ y0 y1 y2 y3 y4 y5 y6 y7 y8 y9, LeO (drumlinelaw15_AgesGone.l4 k y0 y1 y2 y3 y4 y5 y6 y7 y8 y9) (drumlinelaw15_AgesGone.l4 (k + 1) y0 y1 y2 y3 y4 y5 y6 y7 y8 y9)) ∧ (∀ y0 y1 y2 y3 y4 y5 y6 y7 y8 y9 y10 y11 y12, LeO (drumlinelaw15_AgesGone.j6 k y0 y1 y2 y3 y4 y5 y6 y7 y8 y9 y10 y11 y12) (drumlinelaw15_AgesGone.j6 (k + 1) y0 y1 y2 y3 y4 y5 y6 y7 y8 y9 y10 y11 y12)) ∧ (∀ y0 y1 y2 y3 y4, LeO (drumlinelaw15_AgesGone.l5 k y0 y1 y2 y3 y4) (drumlinelaw15_AgesGone.l5 (k + 1) y0 y1 y2 y3 y4))
  | 0 => ⟨fun _ _ _ _ _ _ r h => by simp [drumlinelaw15_AgesGone.j0] at h, fun _ _ _ _ _ _ _ r h => by simp [drumlinelaw15_AgesGone.l0] at h, fun _ _ _ _ _ _ _ _ _ r h => by simp [drumlinelaw15_AgesGone.l1] at h, fun _ _ _ _ _ _ r h => by simp [drumlinelaw15_AgesGone.l2] at h, fun _ _ _ _ _ _ _ _ r h => by simp [drumlinelaw15_AgesGone.l3] at h, fun _ _ _ _ _ _ _ _ _ _ r h => by simp [drumlinelaw15_AgesGone.l4] at h, fun _ _ _ _ _ _ _ _ _ _ _ _ _ r h => by simp [drumlinelaw15_AgesGone.j6] at h, fun _ _ _ _ _ r h => by simp [drumlinelaw15_AgesGone.l5] at h⟩
  | k + 1 => by
    obtain ⟨ih0, ih1, ih2, ih3, ih4, ih5, ih6, ih7⟩ := drumlinelaw15_AgesGone.mono_l k
    refine ⟨?_, ?_, ?_, ?_, ?_, ?_, ?_, ?_⟩
    · intro y0 y1 y2 y3 y4 y5
      unfold drumlinelaw15_AgesGone.j0
      repeat' first
      | (with_reducible exact ih0 _ _ _ _ _ _)
      | (with_reducible exact ih1 _ _ _ _ _ _ _)
      | (with_reducible exact ih2 _ _ _ _ _ _ _ _ _)
      | (with_reducible exact ih3 _ _ _ _ _ _)
      | (with_reducible exact ih4 _ _ _ _ _ _ _ _)
      | (with_reducible exact ih5 _ _ _ _ _ _ _ _ _ _)
      | (with_reducible exact ih6 _ _ _ _ _ _ _ _ _ _ _ _ _)
      | (with_reducible exact ih7 _ _ _ _ _)
      | (with_reducible exact ages_Alive.mono _ _ _)
      | (with_reducible exact ages_Next.mono _ _ _ _ _)
      | (with_reducible exact drumlinelaw15_alive.mono _)
      | (with_reducible exact LeO.refl _)
      | (with_reducible exact LeO.none _)
      | (with_reducible refine LeO.ite ?_ ?_)
      | (with_reducible refine LeO.bind ?_ (fun _ => ?_))
      | exact ih0 _ _ _ _ _ _
      | exact ih1 _ _ _ _ _ _ _
      | exact ih2 _ _ _ _ _ _ _ _ _
      | exact ih3 _ _ _ _ _ _
      | exact ih4 _ _ _ _ _ _ _ _
      | exact ih5 _ _ _ _ _ _ _ _ _ _
      | exact ih6 _ _ _ _ _ _ _ _ _ _ _ _ _
      | exact ih7 _ _ _ _ _
      | exact ages_Alive.mono _ _ _
      | exact ages_Next.mono _ _ _ _ _
      | exact drumlinelaw15_alive.mono _
      | exact LeO.none _
      | refine LeO.ite ?_ ?_
      | refine LeO.bind ?_ (fun _ => ?_)
    · intro y0 y1 y2 y3 y4 y5 y6
      unfold drumlinelaw15_AgesGone.l0
      repeat' first
      | (with_reducible exact ih0 _ _ _ _ _ _)
      | (with_reducible exact ih1 _ _ _ _ _ _ _)
      | (with_reducible exact ih2 _ _ _ _ _ _ _ _ _)
      | (with_reducible exact ih3 _ _ _ _ _ _)
      | (with_reducible exact ih4 _ _ _ _ _ _ _ _)
      | (with_reducible exact ih5 _ _ _ _ _ _ _ _ _ _)
      | (with_reducible exact ih6 _ _ _ _ _ _ _ _ _ _ _ _ _)
      | (with_reducible exact ih7 _ _ _ _ _)
      | (with_reducible exact ages_Alive.mono _ _ _)
      | (with_reducible exact ages_Next.mono _ _ _ _ _)
      | (with_reducible exact drumlinelaw15_alive.mono _)
      | (with_reducible exact LeO.refl _)
      | (with_reducible exact LeO.none _)
      | (with_reducible refine LeO.ite ?_ ?_)
      | (with_reducible refine LeO.bind ?_ (fun _ => ?_))
      | exact ih0 _ _ _ _ _ _
      | exact ih1 _ _ _ _ _ _ _
      | exact ih2 _ _ _ _ _ _ _ _ _
      | exact ih3 _ _ _ _ _ _
      | exact ih4 _ _ _ _ _ _ _ _
      | exact ih5 _ _ _ _ _ _ _ _ _ _
      | exact ih6 _ _ _ _ _ _ _ _ _ _ _ _ _
      | exact ih7 _ _ _ _ _
      | exact ages_Alive.mono _ _ _
      | exact ages_Next.mono _ _ _ _ _
      | exact drumlinelaw15_alive.mono _
      | exact LeO.none _
      | refine LeO.ite ?_ ?_
      | refine LeO.bind ?_ (fun _ => ?_)
    · intro y0 y1 y2 y3 y4 y5 y6 y7 y8
      unfold drumlinelaw15_AgesGone.l1
      repeat' first
      | (with_reducible exact ih0 _ _ _ _ _ _)
      | (with_reducible exact ih1 _ _ _ _ _ _ _)
      | (with_reducible exact ih2 _ _ _ _ _ _ _ _ _)
      | (with_reducible exact ih3 _ _ _ _ _ _)
      | (with_reducible exact ih4 _ _ _ _ _ _ _ _)
      | (with_reducible exact ih5 _ _ _ _ _ _ _ _ _ _)
      | (with_reducible exact ih6 _ _ _ _ _ _ _ _ _ _ _ _ _)
      | (with_reducible exact ih7 _ _ _ _ _)
      | (with_reducible exact ages_Alive.mono _ _ _)
      | (with_reducible exact ages_Next.mono _ _ _ _ _)
      | (with_reducible exact drumlinelaw15_alive.mono _)
      | (with_reducible exact LeO.refl _)
      | (with_reducible exact LeO.none _)
      | (with_reducible refine LeO.ite ?_ ?_)
      | (with_reducible refine LeO.bind ?_ (fun _ => ?_))
      | exact ih0 _ _ _ _ _ _
      | exact ih1 _ _ _ _ _ _ _
      | exact ih2 _ _ _ _ _ _ _ _ _
      | exact ih3 _ _ _ _ _ _
      | exact ih4 _ _ _ _ _ _ _ _
      | exact ih5 _ _ _ _ _ _ _ _ _ _
      | exact ih6 _ _ _ _ _ _ _ _ _ _ _ _ _
      | exact ih7 _ _ _ _ _
      | exact ages_Alive.mono _ _ _
      | exact ages_Next.mono _ _ _ _ _
      | exact drumlinelaw15_alive.mono _
      | exact LeO.none _
      | refine LeO.ite ?_ ?_
      | refine LeO.bind ?_ (fun _ => ?_)
    · intro y0 y1 y2 y3 y4 y5
      unfold drumlinelaw15_AgesGone.l2
      repeat' first
      | (with_reducible exact ih0 _ _ _ _ _ _)
      | (with_reducible exact ih1 _ _ _ _ _ _ _)
      | (with_reducible exact ih2 _ _ _ _ _ _ _ _ _)
      | (with_reducible exact ih3 _ _ _ _ _ _)
      | (with_reducible exact ih4 _ _ _ _ _ _ _ _)
      | (with_reducible exact ih5 _ _ _ _ _ _ _ _ _ _)
      | (with_reducible exact ih6 _ _ _ _ _ _ _ _ _ _ _ _ _)
      | (with_reducible exact ih7 _ _ _ _ _)
      | (with_reducible exact ages_Alive.mono _ _ _)
      | (with_reducible exact ages_Next.mono _ _ _ _ _)
      | (with_reducible exact drumlinelaw15_alive.mono _)
      | (with_reducible exact LeO.refl _)
      | (with_reducible exact LeO.none _)
      | (with_reducible refine LeO.ite ?_ ?_)
      | (with_reducible refine LeO.bind ?_ (fun _ => ?_))
      | exact ih0 _ _ _ _ _ _
      | exact ih1 _ _ _ _ _ _ _
      | exact ih2 _ _ _ _ _ _ _ _ _
      | exact ih3 _ _ _ _ _ _
      | exact ih4 _ _ _ _ _ _ _ _
      | exact ih5 _ _ _ _ _ _ _ _ _ _
      | exact ih6 _ _ _ _ _ _ _ _ _ _ _ _ _
      | exact ih7 _ _ _ _ _
      | exact ages_Alive.mono _ _ _
      | exact ages_Next.mono _ _ _ _ _
      | exact drumlinelaw15_alive.mono _
      | exact LeO.none _
      | refine LeO.ite ?_ ?_
      | refine LeO.bind ?_ (fun _ => ?_)
    · intro y0 y1 y2 y3 y4 y5 y6 y7
      unfold drumlinelaw15_AgesGone.l3
      repeat' first
      | (with_reducible exact ih0 _ _ _ _ _ _)
      | (with_reducible exact ih1 _ _ _ _ _ _ _)
      | (with_reducible exact ih2 _ _ _ _ _ _ _ _ _)
      | (with_reducible exact ih3 _ _ _ _ _ _)
      | (with_reducible exact ih4 _ _ _ _ _ _ _ _)
      | (with_reducible exact ih5 _ _ _ _ _ _ _ _ _ _)
      | (with_reducible exact ih6 _ _ _ _ _ _ _ _ _ _ _ _ _)
      | (with_reducible exact ih7 _ _ _ _ _)
      | (with_reducible exact ages_Alive.mono _ _ _)
      | (with_reducible exact ages_Next.mono _ _ _ _ _)
      | (with_reducible exact drumlinelaw15_alive.mono _)
      | (with_reducible exact LeO.refl _)
      | (with_reducible exact LeO.none _)
      | (with_reducible refine LeO.ite ?_ ?_)
      | (with_reducible refine LeO.bind ?_ (fun _ => ?_))
      | exact ih0 _ _ _ _ _ _
      | exact ih1 _ _ _ _ _ _ _
      | exact ih2 _ _ _ _ _ _ _ _ _
      | exact ih3 _ _ _ _ _ _
      | exact ih4 _ _ _ _ _ _ _ _
      | exact ih5 _ _ _ _ _ _ _ _ _ _
      | exact ih6 _ _ _ _ _ _ _ _ _ _ _ _ _
      | exact ih7 _ _ _ _ _
      | exact ages_Alive.mono _ _ _
      | exact ages_Next.mono _ _ _ _ _
      | exact drumlinelaw15_alive.mono _
      | exact LeO.none _
      | refine LeO.ite ?_ ?_
      | refine LeO.bind ?_ (fun _ => ?_)
    · intro y0 y1 y2 y3 y4 y5 y6 y7 y8 y9
      unfold drumlinelaw15_AgesGone.l4
      repeat' first
      | (with_reducible exact ih0 _ _ _ _ _ _)
      | (with_reducible exact ih1 _ _ _ _ _ _ _)
      | (with_reducible exact ih2 _ _ _ _ _ _ _ _ _)
      | (with_reducible exact ih3 _ _ _ _ _ _)
      | (with_reducible exact ih4 _ _ _ _ _ _ _ _)
      | (with_reducible exact ih5 _ _ _ _ _ _ _ _ _ _)
      | (with_reducible exact ih6 _ _ _ _ _ _ _ _ _ _ _ _ _)
      | (with_reducible exact ih7 _ _ _ _ _)
      | (with_reducible exact ages_Alive.mono _ _ _)
      | (with_reducible exact ages_Next.mono _ _ _ _ _)
      | (with_reducible exact drumlinelaw15_alive.mono _)
      | (with_reducible exact LeO.refl _)
      | (with_reducible exact LeO.none _)
      | (with_reducible refine LeO.ite ?_ ?_)
      | (with_reducible refine LeO.bind ?_ (fun _ => ?_))
      | exact ih0 _ _ _ _ _ _
      | exact ih1 _ _ _ _ _ _ _
      | exact ih2 _ _ _ _ _ _ _ _ _
      | exact ih3 _ _ _ _ _ _
      | exact ih4 _ _ _ _ _ _ _ _
      | exact ih5 _ _ _ _ _ _ _ _ _ _
      | exact ih6 _ _ _ _ _ _ _ _ _ _ _ _ _
      | exact ih7 _ _ _ _ _
      | exact ages_Alive.mono _ _ _
      | exact ages_Next.mono _ _ _ _ _
      | exact drumlinelaw15_alive.mono _
      | exact LeO.none _
      | refine LeO.ite ?_ ?_
      | refine LeO.bind ?_ (fun _ => ?_)
    · intro y0 y1 y2 y3 y4 y5 y6 y7 y8 y9 y10 y11 y12
      unfold drumlinelaw15_AgesGone.j6
      repeat' first
      | (with_reducible exact ih0 _ _ _ _ _ _)
      | (with_reducible exact ih1 _ _ _ _ _ _ _)
      | (with_reducible exact ih2 _ _ _ _ _ _ _ _ _)
      | (with_reducible exact ih3 _ _ _ _ _ _)
      | (with_reducible exact ih4 _ _ _ _ _ _ _ _)
      | (with_reducible exact ih5 _ _ _ _ _ _ _ _ _ _)
      | (with_reducible exact ih6 _ _ _ _ _ _ _ _ _ _ _ _ _)
      | (with_reducible exact ih7 _ _ _ _ _)
      | (with_reducible exact ages_Alive.mono _ _ _)
      | (with_reducible exact ages_Next.mono _ _ _ _ _)
      | (with_reducible exact drumlinelaw15_alive.mono _)
      | (with_reducible exact LeO.refl _)
      | (with_reducible exact LeO.none _)
      | (with_reducible refine LeO.ite ?_ ?_)
      | (with_reducible refine LeO.bind ?_ (fun _ => ?_))
      | exact ih0 _ _ _ _ _ _
      | exact ih1 _ _ _ _ _ _ _
      | exact ih2 _ _ _ _ _ _ _ _ _
      | exact ih3 _ _ _ _ _ _
      | exact ih4 _ _ _ _ _ _ _ _
      | exact ih5 _ _ _ _ _ _ _ _ _ _
      | exact ih6 _ _ _ _ _ _ _ _ _ _ _ _ _
      | exact ih7 _ _ _ _ _
      | exact ages_Alive.mono _ _ _
      | exact ages_Next.mono _ _ _ _ _
      | exact drumlinelaw15_alive.mono _
      | exact LeO.none _
      | refine LeO.ite ?_ ?_
      | refine LeO.bind ?_ (fun _ => ?_)
    · intro y0 y1 y2 y3 y4
      unfold drumlinelaw15_AgesGone.l5
      repeat' first
      | (with_reducible exact ih0 _ _ _ _ _ _)
      | (with_reducible exact ih1 _ _ _ _ _ _ _)
      | (with_reducible exact ih2 _ _ _ _ _ _ _ _ _)
      | (with_reducible exact ih3 _ _ _ _ _ _)
      | (with_reducible exact ih4 _ _ _ _ _ _ _ _)
      | (with_reducible exact ih5 _ _ _ _ _ _ _ _ _ _)
      | (with_reducible exact ih6 _ _ _ _ _ _ _ _ _ _ _ _ _)
      | (with_reducible exact ih7 _ _ _ _ _)
      | (with_reducible exact ages_Alive.mono _ _ _)
      | (with_reducible exact ages_Next.mono _ _ _ _ _)
      | (with_reducible exact drumlinelaw15_alive.mono _)
      | (with_reducible exact LeO.refl _)
      | (with_reducible exact LeO.none _)
      | (with_reducible refine LeO.ite ?_ ?_)
      | (with_reducible refine LeO.bind ?_ (fun _ => ?_))
      | exact ih0 _ _ _ _ _ _
      | exact ih1 _ _ _ _ _ _ _
      | exact ih2 _ _ _ _ _ _ _ _ _
      | exact ih3 _ _ _ _ _ _
      | exact ih4 _ _ _ _ _ _ _ _
      | exact ih5 _ _ _ _ _ _ _ _ _ _
      | exact ih6 _ _ _ _ _ _ _ _ _ _ _ _ _
      | exact ih7 _ _ _ _ _
      | exact ages_Alive.mono _ _ _
      | exact ages_Next.mono _ _ _ _ _
      | exact drumlinelaw15_alive.mono _
      | exact LeO.none _
      | refine LeO.ite ?_ ?_
      | refine LeO.bind ?_ (fun _ => ?_)
theorem drumlinelaw15_AgesGone.mono : ∀ a0 a1 a2 a3 k, LeO (drumlinelaw15_AgesGone.f k a0 a1 a2 a3) (drumlinelaw15_AgesGone.f (k + 1) a0 a1 a2 a3) := by
  intro a0 a1 a2 a3 k
  obtain ⟨ih0, ih1, ih2, ih3, ih4, ih5, ih6, ih7⟩ := drumlinelaw15_AgesGone.mono_l k
  unfold drumlinelaw15_AgesGone.f
  repeat' first
      | (with_reducible exact ih0 _ _ _ _ _ _)
      | (with_reducible exact ih1 _ _ _ _ _ _ _)
      | (with_reducible exact ih2 _ _ _ _ _ _ _ _ _)
      | (with_reducible exact ih3 _ _ _ _ _ _)
      | (with_reducible exact ih4 _ _ _ _ _ _ _ _)
      | (with_reducible exact ih5 _ _ _ _ _ _ _ _ _ _)
      | (with_reducible exact ih6 _ _ _ _ _ _ _ _ _ _ _ _ _)
      | (with_reducible exact ih7 _ _ _ _ _)
      | (with_reducible exact ages_Alive.mono _ _ _)
      | (with_reducible exact ages_Next.mono _ _ _ _ _)
      | (with_reducible exact drumlinelaw15_alive.mono _)
      | (with_reducible exact LeO.refl _)
      | (with_reducible exact LeO.none _)
      | (with_reducible refine LeO.ite ?_ ?_)
      | (with_reducible refine LeO.bind ?_ (fun _ => ?_))
      | exact ih0 _ _ _ _ _ _
      | exact ih1 _ _ _ _ _ _ _
      | exact ih2 _ _ _ _ _ _ _ _ _
      | exact ih3 _ _ _ _ _ _
      | exact ih4 _ _ _ _ _ _ _ _
      | exact ih5 _ _ _ _ _ _ _ _ _ _
      | exact ih6 _ _ _ _ _ _ _ _ _ _ _ _ _
      | exact ih7 _ _ _ _ _
      | exact ages_Alive.mono _ _ _
      | exact ages_Next.mono _ _ _ _ _
      | exact drumlinelaw15_alive.mono _
      | exact LeO.none _
      | refine LeO.ite ?_ ?_
      | refine LeO.bind ?_ (fun _ => ?_)
set_option maxHeartbeats 8000000 in
set_option maxRecDepth 100000 in
theorem drumlinelaw15_AgesGone.calls (k : Nat) (A0 : Option Addr) (c0 : Nat) (l0 : List (List Int)) (A1 : Option Addr) (c1 : Nat) (l1 : List Int) (a2 : Int) (a3 : Int) (r : Bool) (w : World) (hr0 : Kd.C (Kd.slice 5 (Kd.int .u8)) w A0 l0.length l0) (hc0 : l0.length ≤ c0) (hr1 : Kd.C (Kd.int .u8) w A1 l1.length l1) (hc1 : l1.length ≤ c1) (h : drumlinelaw15_AgesGone.f k l0 l1 a2 a3 = some r) :
    Calls Try.prog 4 #[.slice A0 l0.length c0, .slice A1 l1.length c1, .int .u8 a2, .int .u8 a3] w fun e w' => e = .returned (.bool r) ∧ Below w.heap.size w w' := by
  have HR0 := Aside0.mk hr0
  have HC0 := Aside0.mk hc0
  clear hr0 hc0
  have HR1 := Aside0.mk hr1
  have HC1 := Aside0.mk hc1
  clear hr1 hc1
  have HB := Aside0.mk (Below.refl w.heap.size w)
  have H : ((drumlinelaw15_alive.f k).bind fun t135 => (if t135 = true then (if (l0.length : Int) < 2 then (drumlinelaw15_AgesGone.j0 k l0 l1 a3 (wrap64 (1 + (Int.tmod (wrap64 (a2)) 40))) (l0.length : Int) true) else (if (l0.length : Int) > 6 then (drumlinelaw15_AgesGone.j0 k l0 l1 a3 (wrap64 (1 + (Int.tmod (wrap64 (a2)) 40))) (l0.length : Int) true) else (drumlinelaw15_AgesGone.j0 k l0 l1 a3 (wrap64 (1 + (Int.tmod (wrap64 (a2)) 40))) (l0.length : Int) (decide ((l1.length : Int) > 30))))) else (drumlinelaw15_AgesGone.j0 k l0 l1 a3 (wrap64 (1 + (Int.tmod (wrap64 (a2)) 40))) (l0.length : Int) true))) = some r := h
  clear h
  have HC5 := Aside0.mk H
  clear H
  go_enter Try.func4, Try.ntmps4
  go_upto_region 3 with (fail)
  repeat (go_quiet (fail); go_upto_region 3 with (fail))
  go_cut [45] (fun v45 wc => ∃ (kq : Nat) (x45_4 : Bool), v45 = .bool x45_4 ∧ Aside0 (drumlinelaw15_AgesGone.j0 kq l0 l1 a3 (wrap64 (1 + (Int.tmod (wrap64 (a2)) 40))) (l0.length : Int) x45_4 = some r) ∧ Aside0 (kq ≤ k) ∧ Aside0 (Below w.heap.size w wc))
  case first =>
    have H := HC5.out
    clear HC5
    replace H := Option.bind_eq_some_iff.mp H
    obtain ⟨t135, A60, H⟩ := H
    replace H : (if t135 = true then (if (l0.length : Int) < 2 then (drumlinelaw15_AgesGone.j0 k l0 l1 a3 (wrap64 (1 + (Int.tmod (wrap64 (a2)) 40))) (l0.length : Int) true) else (if (l0.length : Int) > 6 then (drumlinelaw15_AgesGone.j0 k l0 l1 a3 (wrap64 (1 + (Int.tmod (wrap64 (a2)) 40))) (l0.length : Int) true) else (drumlinelaw15_AgesGone.j0 k l0 l1 a3 (wrap64 (1 + (Int.tmod (wrap64 (a2)) 40))) (l0.length : Int) (decide ((l1.length : Int) > 30))))) else (drumlinelaw15_AgesGone.j0 k l0 l1 a3 (wrap64 (1 + (Int.tmod (wrap64 (a2)) 40))) (l0.length : Int) true)) = some r := H
    have A6 := Aside0.mk A60
    clear A60
    by_cases c7 : t135 = true
    · subst c7
      have H1 : (if (l0.length : Int) < 2 then (drumlinelaw15_AgesGone.j0 k l0 l1 a3 (wrap64 (1 + (Int.tmod (wrap64 (a2)) 40))) (l0.length : Int) true) else (if (l0.length : Int) > 6 then (drumlinelaw15_AgesGone.j0 k l0 l1 a3 (wrap64 (1 + (Int.tmod (wrap64 (a2)) 40))) (l0.length : Int) true) else (drumlinelaw15_AgesGone.j0 k l0 l1 a3 (wrap64 (1 + (Int.tmod (wrap64 (a2)) 40))) (l0.length : Int) (decide ((l1.length : Int) > 30))))) = some r := by rw [if_pos rfl] at H; exact H
      clear H
      have H := H1
      clear H1
      by_cases c8 : (l0.length : Int) < 2
      · rw [if_pos c8] at H
        have c8b0 : decide ((l0.length : Int) < 2) = true := decide_eq_true c8
        have c8b1 : decide (l0.length < 2) = true := decide_eq_true (by omega)
        clear c8
        (first | rw [c8b0] | (simp only [i64_w, i32_w]; rw [c8b0]) | skip)
        have H' := Aside0.mk H
        clear H
        go_wp2_with (first | (go_at_call 14; (with_reducible refine (drumlinelaw15_alive.calls k  true _ A6.out).mono ?_); rintro e w9 ⟨rfl, hb⟩; have n0_ := Aside0.mk (below_step (by repeat (first | (with_reducible first | exact HB.out | apply below_alloc | apply pw_below_drewN | apply below_drew1) | exact HB.out)) hb); clear HB; have HB := n0_; clear n0_; (try clear hb); (try clear hb2); (try clear hk); (try clear hi)))
        repeat (go_quiet (first | (go_at_call 14; (with_reducible refine (drumlinelaw15_alive.calls k  true _ A6.out).mono ?_); rintro e w9 ⟨rfl, hb⟩; have n0_ := Aside0.mk (below_step (by repeat (first | (with_reducible first | exact HB.out | apply below_alloc | apply pw_below_drewN | apply below_drew1) | exact HB.out)) hb); clear HB; have HB := n0_; clear n0_; (try clear hb); (try clear hb2); (try clear hk); (try clear hi))); try go_wp2_with (first | (go_at_call 14; (with_reducible refine (drumlinelaw15_alive.calls k  true _ A6.out).mono ?_); rintro e w9 ⟨rfl, hb⟩; have n0_ := Aside0.mk (below_step (by repeat (first | (with_reducible first | exact HB.out | apply below_alloc | apply pw_below_drewN | apply below_drew1) | exact HB.out)) hb); clear HB; have HB := n0_; clear n0_; (try clear hb); (try clear hb2); (try clear hk); (try clear hi))))
        go_meet
        case rel => exact ⟨_, (true), (by first | rfl | (simp; done) | (simp [*]; done)), H', ⟨by first | omega | exact Nat.le_refl _⟩, ⟨by repeat (first | (with_reducible first | exact HB.out | apply below_alloc | apply pw_below_drewN | apply below_drew1) | exact HB.out)⟩⟩
      · rw [if_neg c8] at H
        have c8b0 : decide ((l0.length : Int) < 2) = false := decide_eq_false c8
        have c8b1 : decide (l0.length < 2) = false := decide_eq_false (by omega)
        clear c8
        (first | rw [c8b0] | (simp only [i64_w, i32_w]; rw [c8b0]) | skip)
        by_cases c10 : (l0.length : Int) > 6
        · rw [if_pos c10] at H
          have c10b0 : decide (6 < (l0.length : Int)) = true := decide_eq_true c10
          have c10b1 : decide (6 < l0.length) = true := decide_eq_true (by omega)
          clear c10
          have H' := Aside0.mk H
          clear H
          go_wp2_with (first | (go_at_call 14; (with_reducible refine (drumlinelaw15_alive.calls k  true _ A6.out).mono ?_); rintro e w11 ⟨rfl, hb⟩; have n0_ := Aside0.mk (below_step (by repeat (first | (with_reducible first | exact HB.out | apply below_alloc | apply pw_below_drewN | apply below_drew1) | exact HB.out)) hb); clear HB; have HB := n0_; clear n0_; (try clear hb); (try clear hb2); (try clear hk); (try clear hi)))
          repeat (go_quiet (first | (go_at_call 14; (with_reducible refine (drumlinelaw15_alive.calls k  true _ A6.out).mono ?_); rintro e w11 ⟨rfl, hb⟩; have n0_ := Aside0.mk (below_step (by repeat (first | (with_reducible first | exact HB.out | apply below_alloc | apply pw_below_drewN | apply below_drew1) | exact HB.out)) hb); clear HB; have HB := n0_; clear n0_; (try clear hb); (try clear hb2); (try clear hk); (try clear hi))); try go_wp2_with (first | (go_at_call 14; (with_reducible refine (drumlinelaw15_alive.calls k  true _ A6.out).mono ?_); rintro e w11 ⟨rfl, hb⟩; have n0_ := Aside0.mk (below_step (by repeat (first | (with_reducible first | exact HB.out | apply below_alloc | apply pw_below_drewN | apply below_drew1) | exact HB.out)) hb); clear HB; have HB := n0_; clear n0_; (try clear hb); (try clear hb2); (try clear hk); (try clear hi))))
          go_meet
          case rel => exact ⟨_, (true), (by first | rfl | (simp; done) | (simp [*]; done)), H', ⟨by first | omega | exact Nat.le_refl _⟩, ⟨by repeat (first | (with_reducible first | exact HB.out | apply below_alloc | apply pw_below_drewN | apply below_drew1) | exact HB.out)⟩⟩
        · rw [if_neg c10] at H
          have c10b0 : decide (6 < (l0.length : Int)) = false := decide_eq_false c10
          have c10b1 : decide (6 < l0.length) = false := decide_eq_false (by omega)
          clear c10
          have H' := Aside0.mk H
          clear H
          go_wp2_with (first | (go_at_call 14; (with_reducible refine (drumlinelaw15_alive.calls k  true _ A6.out).mono ?_); rintro e w12 ⟨rfl, hb⟩; have n0_ := Aside0.mk (below_step (by repeat (first | (with_reducible first | exact HB.out | apply below_alloc | apply pw_below_drewN | apply below_drew1) | exact HB.out)) hb); clear HB; have HB := n0_; clear n0_; (try clear hb); (try clear hb2); (try clear hk); (try clear hi)))
          repeat (go_quiet (first | (go_at_call 14; (with_reducible refine (drumlinelaw15_alive.calls k  true _ A6.out).mono ?_); rintro e w12 ⟨rfl, hb⟩; have n0_ := Aside0.mk (below_step (by repeat (first | (with_reducible first | exact HB.out | apply below_alloc | apply pw_below_drewN | apply below_drew1) | exact HB.out)) hb); clear HB; have HB := n0_; clear n0_; (try clear hb); (try clear hb2); (try clear hk); (try clear hi))); try go_wp2_with (first | (go_at_call 14; (with_reducible refine (drumlinelaw15_alive.calls k  true _ A6.out).mono ?_); rintro e w12 ⟨rfl, hb⟩; have n0_ := Aside0.mk (below_step (by repeat (first | (with_reducible first | exact HB.out | apply below_alloc | apply pw_below_drewN | apply below_drew1) | exact HB.out)) hb); clear HB; have HB := n0_; clear n0_; (try clear hb); (try clear hb2); (try clear hk); (try clear hi))))
          go_meet
          case rel => exact ⟨_, (decide ((l1.length : Int) > 30)), (by first | rfl | (simp; done) | (simp [*]; done)), H', ⟨by first | omega | exact Nat.le_refl _⟩, ⟨by repeat (first | (with_reducible first | exact HB.out | apply below_alloc | apply pw_below_drewN | apply below_drew1) | exact HB.out)⟩⟩
    · replace c7 := Bool.eq_false_iff.mpr c7
      subst c7
      have H1 : (drumlinelaw15_AgesGone.j0 k l0 l1 a3 (wrap64 (1 + (Int.tmod (wrap64 (a2)) 40))) (l0.length : Int) true) = some r := by rw [if_neg (show ¬ (false = true) by decide)] at H; exact H
      clear H
      have H := H1
      clear H1
      have H' := Aside0.mk H
      clear H
      go_wp2_with (first | (go_at_call 14; (with_reducible refine (drumlinelaw15_alive.calls k  false _ A6.out).mono ?_); rintro e w13 ⟨rfl, hb⟩; have n0_ := Aside0.mk (below_step (by repeat (first | (with_reducible first | exact HB.out | apply below_alloc | apply pw_below_drewN | apply below_drew1) | exact HB.out)) hb); clear HB; have HB := n0_; clear n0_; (try clear hb); (try clear hb2); (try clear hk); (try clear hi)))
      repeat (go_quiet (first | (go_at_call 14; (with_reducible refine (drumlinelaw15_alive.calls k  false _ A6.out).mono ?_); rintro e w13 ⟨rfl, hb⟩; have n0_ := Aside0.mk (below_step (by repeat (first | (with_reducible first | exact HB.out | apply below_alloc | apply pw_below_drewN | apply below_drew1) | exact HB.out)) hb); clear HB; have HB := n0_; clear n0_; (try clear hb); (try clear hb2); (try clear hk); (try clear hi))); try go_wp2_with (first | (go_at_call 14; (with_reducible refine (drumlinelaw15_alive.calls k  false _ A6.out).mono ?_); rintro e w13 ⟨rfl, hb⟩; have n0_ := Aside0.mk (below_step (by repeat (first | (with_reducible first | exact HB.out | apply below_alloc | apply pw_below_drewN | apply below_drew1) | exact HB.out)) hb); clear HB; have HB := n0_; clear n0_; (try clear hb); (try clear hb2); (try clear hk); (try clear hi))))
      go_meet
      case rel => exact ⟨_, (true), (by first | rfl | (simp; done) | (simp [*]; done)), H', ⟨by first | omega | exact Nat.le_refl _⟩, ⟨by repeat (first | (with_reducible first | exact HB.out | apply below_alloc | apply pw_below_drewN | apply below_drew1) | exact HB.out)⟩⟩
  case rest =>
    clear HC5
    try clear c1
    try clear p2
    try clear c4
    try clear p6
    try clear c7
    try clear c8
    try clear c8b0
    try clear c8b1
    try clear c10
    try clear c10b0
    try clear c10b1
    obtain ⟨kq, x45_4, rfl, HA, HJ4, HB⟩ := hcut
    cases kq with
    | zero => exact absurd HA.out (by simp [drumlinelaw15_AgesGone.j0])
    | succ kj4 =>
      have H := HA.out
      clear HA
      simp only [drumlinelaw15_AgesGone.j0] at H
      by_cases c14 : x45_4 = true
      · subst c14
        have H1 : ((drumlinelaw15_alive.f kj4).bind fun t136 => (some t136)) = some r := by rw [if_pos rfl] at H; exact H
        clear H
        have H := H1
        clear H1
        replace H := Option.bind_eq_some_iff.mp H
        obtain ⟨t136, A150, H⟩ := H
        replace H : (some t136) = some r := H
        have A15 := Aside0.mk A150
        clear A150
        obtain rfl := Option.some.inj H
        go_wp2_with (first | (go_at_call 14; (with_reducible refine (drumlinelaw15_alive.calls kj4  t136 _ A15.out).mono ?_); rintro e w16 ⟨rfl, hb⟩; have n0_ := Aside0.mk (below_step (by repeat (first | (with_reducible first | exact HB.out | apply below_alloc | apply pw_below_drewN | apply below_drew1) | exact HB.out)) hb); clear HB; have HB := n0_; clear n0_; (try clear hb); (try clear hb2); (try clear hk); (try clear hi)))
        repeat (go_quiet (first | (go_at_call 14; (with_reducible refine (drumlinelaw15_alive.calls kj4  t136 _ A15.out).mono ?_); rintro e w16 ⟨rfl, hb⟩; have n0_ := Aside0.mk (below_step (by repeat (first | (with_reducible first | exact HB.out | apply below_alloc | apply pw_below_drewN | apply below_drew1) | exact HB.out)) hb); clear HB; have HB := n0_; clear n0_; (try clear hb); (try clear hb2); (try clear hk); (try clear hi))); try go_wp2_with (first | (go_at_call 14; (with_reducible refine (drumlinelaw15_alive.calls kj4  t136 _ A15.out).mono ?_); rintro e w16 ⟨rfl, hb⟩; have n0_ := Aside0.mk (below_step (by repeat (first | (with_reducible first | exact HB.out | apply below_alloc | apply pw_below_drewN | apply below_drew1) | exact HB.out)) hb); clear HB; have HB := n0_; clear n0_; (try clear hb); (try clear hb2); (try clear hk); (try clear hi))))
        go_ret
        exact ⟨by first | rfl | (simp [errW_none, errW_some] <;> rfl) | (simp [*, errW_none, errW_some] <;> rfl), by repeat (first | (with_reducible first | exact HB.out | apply below_alloc | apply pw_below_drewN | apply below_drew1) | exact HB.out)⟩
      · replace c14 := Bool.eq_false_iff.mpr c14
        subst c14
        have H1 : (if (l0.length : Int) = 0 then (none) else (drumlinelaw15_AgesGone.l0 kj4 l0 l1 (wrap64 (1 + (Int.tmod (wrap64 (a2)) 40))) (l0.length : Int) (Int.tmod (wrap64 (a3)) (l0.length : Int)) ([] : List (List Int)) 0)) = some r := by rw [if_neg (show ¬ (false = true) by decide)] at H; exact H
        clear H
        have H := H1
        clear H1
        by_cases c17 : (l0.length : Int) = 0
        · rw [if_pos c17] at H
          exact absurd H (by simp)
        · rw [if_neg c17] at H
          have c17b0 : ((l0.length : Int) == 0) = false := beq_eq_false_iff_ne.mpr c17
          have c17b1 : ((l0.length : Int) != 0) = true := bne_iff_ne.mpr c17
          have c17b2 : ¬ (l0 = []) := fun h_ => c17 (by rw [h_]; rfl)
          have H' := Aside0.mk H
          clear H
          go_wp2
          repeat (go_quiet (fail); try go_wp2)
          go_loopg [12, 13] kj4 (fun kq v12 v13 w' => ∃ (x12_2 : List (List Int)) (x13_2 : Int), v13 = .int .i64 x13_2 ∧ Aside0 (drumlinelaw15_AgesGone.l0 kq l0 l1 (wrap64 (1 + (Int.tmod (wrap64 (a2)) 40))) (l0.length : Int) (Int.tmod (wrap64 (a3)) (l0.length : Int)) x12_2 x13_2 = some r) ∧ Aside0 (kq ≤ kj4) ∧ Aside0 (Kd.N (Kd.slice 3 (Kd.int .i64)) 25 w' w.heap.size (fun _ => True) v12 x12_2) ∧ Aside0 (Below w.heap.size w w'))
          case atStart => exact ⟨(([] : List (List Int))), (0), (by first | rfl | (simp; done) | (simp [*]; done)), H', ⟨Nat.le_refl _⟩, ⟨by first | exact Kd.S_nil _ _ _ _ _ | exact Kd.N_nil _ _ _ _ _ | exact Kd.V_nil _ _ _ _ _ | exact Kd.Q_nil _ _ _ _ _ | exact Kd.R_nil _ _ _ _ _⟩, ⟨by repeat (first | (with_reducible first | exact HB.out | apply below_alloc | apply pw_below_drewN | apply below_drew1) | exact HB.out)⟩⟩
          case round =>
            clear H'
            try clear c1
            try clear p2
            try clear c4
            try clear p6
            try clear c7
            try clear c8
            try clear c8b0
            try clear c8b1
            try clear c10
            try clear c10b0
            try clear c10b1
            try clear c14
            try clear c17
            try clear c17b0
            try clear c17b1
            try clear c17b2
            try clear p2
            try clear p6
            obtain ⟨x12_2, x13_2, rfl, HA, HK2, HO_12, HB⟩ := hrel
            cases gk with
            | zero => exact absurd HA.out (by simp [drumlinelaw15_AgesGone.l0])
            | succ k2 =>
              have H := HA.out
              clear HA
              simp only [drumlinelaw15_AgesGone.l0] at H
              by_cases c18 : x13_2 < (l0.length : Int)
              · rw [if_pos c18] at H
                have c18b0 : decide (x13_2 < (l0.length : Int)) = true := decide_eq_true c18
                clear c18
                have H' := Aside0.mk H
                clear H
                go_wp2
                repeat (go_quiet (fail); try go_wp2)
                go_loopg [14, 15] k2 (fun kq v14 v15 w' => ∃ (x14_3 : List Int) (x15_3 : Int), v15 = .int .i64 x15_3 ∧ Aside0 (drumlinelaw15_AgesGone.l1 kq l0 l1 (wrap64 (1 + (Int.tmod (wrap64 (a2)) 40))) (l0.length : Int) (Int.tmod (wrap64 (a3)) (l0.length : Int)) x12_2 x13_2 x14_3 x15_3 = some r) ∧ Aside0 (kq ≤ k2) ∧ Aside0 (Kd.N (Kd.slice 3 (Kd.int .i64)) 25 w' w.heap.size (fun k_ => some k_ ≠ (v14 : Value).ownBlock) u12 x12_2) ∧ Aside0 (Kd.R (Kd.int .i64) 3 w' w.heap.size (fun _ => True) v14 x14_3) ∧ Aside0 (Below w.heap.size w w'))
                case atStart => exact ⟨(([] : List Int)), (0), (by first | rfl | (simp; done) | (simp [*]; done)), H', ⟨Nat.le_refl _⟩, ⟨by (with_reducible repeat (first | apply Kd.N_alloc | apply Kd.N_drewN | apply Kd.N_drew)); exact Kd.N_mono HO_12.out (fun _ hk => (by simp [Value.ownBlock]))⟩, ⟨by first | exact Kd.R_nil _ _ _ _ _ | exact Kd.N_nil _ _ _ _ _ | exact Kd.V_nil _ _ _ _ _ | exact Kd.Q_nil _ _ _ _ _ | exact Kd.S_nil _ _ _ _ _⟩, ⟨by repeat (first | (with_reducible first | exact HB.out | apply below_alloc | apply pw_below_drewN | apply below_drew1) | exact HB.out)⟩⟩
                case round =>
                  clear H'
                  try clear c1
                  try clear p2
                  try clear c4
                  try clear p6
                  try clear c7
                  try clear c8
                  try clear c8b0
                  try clear c8b1
                  try clear c10
                  try clear c10b0
                  try clear c10b1
                  try clear c14
                  try clear c17
                  try clear c17b0
                  try clear c17b1
                  try clear c17b2
                  try clear c18
                  try clear c18b0
                  try clear p2
                  try clear p6
                  obtain ⟨x14_3, x15_3, rfl, HA, HK3, HO_12, HO_14, HB⟩ := hrel
                  cases gk with
                  | zero => exact absurd HA.out (by simp [drumlinelaw15_AgesGone.l1])
                  | succ k3 =>
                    have H := HA.out
                    clear HA
                    simp only [drumlinelaw15_AgesGone.l1] at H
                    by_cases c19 : x15_3 < (l0.length : Int)
                    · rw [if_pos c19] at H
                      have c19b0 : decide (x15_3 < (l0.length : Int)) = true := decide_eq_true c19
                      clear c19
                      by_cases c20 : 0 ≤ x13_2
                      · rw [if_pos c20] at H
                        have c20b0 : decide (0 ≤ x13_2) = true := decide_eq_true c20
                        clear c20
                        by_cases c21 : x13_2 < (l0.length : Int)
                        · rw [if_pos c21] at H
                          have c21b0 : decide (x13_2 < (l0.length : Int)) = true := decide_eq_true c21
                          clear c21
                          by_cases c22 : x15_3 < ((rd_L3 l0 x13_2).length : Int)
                          · rw [if_pos c22] at H
                            have c22b0 : decide (x15_3 < ((rd_L3 l0 x13_2).length : Int)) = true := decide_eq_true c22
                            clear c22
                            by_cases c23 : 0 ≤ x15_3
                            · rw [if_pos c23] at H
                              have c23b0 : decide (0 ≤ x15_3) = true := decide_eq_true c23
                              clear c23
                              obtain ⟨ji24, hji24⟩ : ∃ j_ : Int, (mn (wrap64 (rd (rd_L3 l0 x13_2) x15_3)) (wrap64 (1 + (Int.tmod (wrap64 (a2)) 40)))) = j_ := ⟨_, rfl⟩
                              replace H : (if x14_3.length < 17592186044416 then (drumlinelaw15_AgesGone.l1 k3 l0 l1 (wrap64 (1 + (Int.tmod (wrap64 (a2)) 40))) (l0.length : Int) (Int.tmod (wrap64 (a3)) (l0.length : Int)) x12_2 x13_2 (x14_3 ++ [ji24]) (wrap64 (x15_3 + 1))) else (none)) = some r := by first | (rw [hji24] at H; exact H) | (simp only [hji24] at H ⊢; exact H)
                              have hji24_ : (if (wrap64 (1 + (Int.tmod (wrap64 (a2)) 40))) < (wrap64 (rd (rd_L3 l0 x13_2) x15_3)) then (wrap64 (1 + (Int.tmod (wrap64 (a2)) 40))) else (wrap64 (rd (rd_L3 l0 x13_2) x15_3))) = ji24 := hji24
                              by_cases c25 : x14_3.length < 17592186044416
                              · rw [if_pos c25] at H
                                have LMc25 := Aside0.mk c25
                                clear c25
                                obtain ⟨y140, hy140⟩ : ∃ y_ : List Int, y_ = (x14_3 ++ [ji24]) := ⟨_, rfl⟩
                                replace H : (drumlinelaw15_AgesGone.l1 k3 l0 l1 (wrap64 (1 + (Int.tmod (wrap64 (a2)) 40))) (l0.length : Int) (Int.tmod (wrap64 (a3)) (l0.length : Int)) x12_2 x13_2 y140 (wrap64 (x15_3 + 1))) = some r := by first | (rw [hy140]; with_reducible exact H) | (have H2_ := (Option.bind_some _ _).symm.trans H; rw [hy140]; with_reducible exact H2_) | (have H2_ := (Option.bind_some _ _).symm.trans H; with_reducible exact H2_) | with_reducible exact H | (rw [hy140]; exact H) | exact H
                                have Ny140 := Aside0.mk hy140
                                clear hy140
                                have H' := Aside0.mk H
                                clear H
                                have p137 : 0 ≤ (x13_2 : Int) := of_decide_eq_true (by first | (with_reducible assumption) | assumption)
                                have q137 : x13_2 < (l0.length : Int) := of_decide_eq_true (by first | (with_reducible assumption) | assumption)
                                obtain ⟨ad137, A137_0, c137_0, e137, hx137_0, hl137_0, hi137_0⟩ := at_L3 HR0.out x13_2 p137 q137
                                cases e137
                                replace hx137_0 := (HB.out.cell (World.block_lt_of_cell? w _ hx137_0)).trans hx137_0
                                have HR137_0 := Aside0.mk hi137_0
                                have HC137_0 := Aside0.mk hl137_0
                                clear hi137_0 hl137_0
                                replace p137 := eq_true p137
                                replace q137 := eq_true q137
                                have p138 : 0 ≤ (x13_2 : Int) := of_decide_eq_true (by first | (with_reducible assumption) | assumption)
                                have q138 : x13_2 < (l0.length : Int) := of_decide_eq_true (by first | (with_reducible assumption) | assumption)
                                obtain ⟨ad138, A138_0, c138_0, e138, hx138_0, hl138_0, hi138_0⟩ := at_L3 HR0.out x13_2 p138 q138
                                obtain rfl : ad137 = ad138 := (by injection e138)
                                replace hx138_0 := (HB.out.cell (World.block_lt_of_cell? w _ hx138_0)).trans hx138_0
                                have HR138_0 := Aside0.mk hi138_0
                                have HC138_0 := Aside0.mk hl138_0
                                clear hi138_0 hl138_0
                                replace p138 := eq_true p138
                                replace q138 := eq_true q138
                                have ea_ := Option.some.inj (hx137_0.symm.trans hx138_0)
                                injection ea_ with ea_ en_ ec_
                                subst ea_
                                subst ec_
                                clear en_
                                have p139 : 0 ≤ (x15_3 : Int) := of_decide_eq_true (by first | (with_reducible assumption) | assumption)
                                have q139 : x15_3 < ((rd_L3 l0 x13_2).length : Int) := of_decide_eq_true (by first | (with_reducible assumption) | assumption)
                                obtain ⟨ad139, e139, hx139_0⟩ := Kd.at_int HR138_0.out x15_3 p139 q139
                                cases e139
                                replace hx139_0 := (HB.out.cell (World.block_lt_of_cell? w _ hx139_0)).trans hx139_0
                                replace p139 := eq_true p139
                                replace q139 := eq_true q139
                                go_wp2_with (first | ((with_reducible refine gate_builtin (b := .append) (xs := #[.tmp 79, .tmp 81]) rfl ?_); (try (refine gate_guard (by rfl) ?_; dsimp only)); at_builtin; refine Kd.R_append (Kd.int .i64) (w0 := w) w.heap.size rfl (.tmp 79) (.tmp 81) 25 3 (.int .i64 0) 8 rfl Try.underlying25 info3 rfl (by decide) (by omega) u14 x14_3 ji24 [.int .i64 ji24] (fun _ => True) (fun _ => False) rfl rfl ?aP (fun _ hk => hk.elim) ?aF ?aO ?aB ?aS ?aL ?_; (case aP => exact rfl); (case aB => exact (by repeat (first | (with_reducible first | exact HB.out | apply below_alloc | apply pw_below_drewN | apply below_drew1) | exact HB.out))); (case aF => exact (fun _ _ => trivial)); (case aO => exact (by (with_reducible repeat (first | apply Kd.R_alloc | apply Kd.R_drewN | apply Kd.R_drew)); exact HO_14.out)); (case aS => exact (below_size (by repeat (first | (with_reducible first | exact HB.out | apply below_alloc | apply pw_below_drewN | apply below_drew1) | exact HB.out)))); (case aL => have := LMc25.out; omega); intro v141 w26 ho hb hg hat; rw [← Ny140.out] at ho; have n0_ := Aside0.mk (Kd.N_afterv (ok := (fun _ => True)) (by (with_reducible repeat (first | apply Kd.N_alloc | apply Kd.N_drewN | apply Kd.N_drew)); exact Kd.N_mono HO_12.out (fun _ hk => ⟨trivial, hk⟩)) hg hat); have n1_ := Aside0.mk (hb); have n2_ := Aside0.mk (ho); clear HO_12; clear HB; clear HO_14; have HO_12 := n0_; have HB := n1_; have HO142 := n2_; clear n0_ n1_ n2_; clear ho hb hg hat))
                                repeat (go_quiet (first | ((with_reducible refine gate_builtin (b := .append) (xs := #[.tmp 79, .tmp 81]) rfl ?_); (try (refine gate_guard (by rfl) ?_; dsimp only)); at_builtin; refine Kd.R_append (Kd.int .i64) (w0 := w) w.heap.size rfl (.tmp 79) (.tmp 81) 25 3 (.int .i64 0) 8 rfl Try.underlying25 info3 rfl (by decide) (by omega) u14 x14_3 ji24 [.int .i64 ji24] (fun _ => True) (fun _ => False) rfl rfl ?aP (fun _ hk => hk.elim) ?aF ?aO ?aB ?aS ?aL ?_; (case aP => exact rfl); (case aB => exact (by repeat (first | (with_reducible first | exact HB.out | apply below_alloc | apply pw_below_drewN | apply below_drew1) | exact HB.out))); (case aF => exact (fun _ _ => trivial)); (case aO => exact (by (with_reducible repeat (first | apply Kd.R_alloc | apply Kd.R_drewN | apply Kd.R_drew)); exact HO_14.out)); (case aS => exact (below_size (by repeat (first | (with_reducible first | exact HB.out | apply below_alloc | apply pw_below_drewN | apply below_drew1) | exact HB.out)))); (case aL => have := LMc25.out; omega); intro v141 w26 ho hb hg hat; rw [← Ny140.out] at ho; have n0_ := Aside0.mk (Kd.N_afterv (ok := (fun _ => True)) (by (with_reducible repeat (first | apply Kd.N_alloc | apply Kd.N_drewN | apply Kd.N_drew)); exact Kd.N_mono HO_12.out (fun _ hk => ⟨trivial, hk⟩)) hg hat); have n1_ := Aside0.mk (hb); have n2_ := Aside0.mk (ho); clear HO_12; clear HB; clear HO_14; have HO_12 := n0_; have HB := n1_; have HO142 := n2_; clear n0_ n1_ n2_; clear ho hb hg hat)); try go_wp2_with (first | ((with_reducible refine gate_builtin (b := .append) (xs := #[.tmp 79, .tmp 81]) rfl ?_); (try (refine gate_guard (by rfl) ?_; dsimp only)); at_builtin; refine Kd.R_append (Kd.int .i64) (w0 := w) w.heap.size rfl (.tmp 79) (.tmp 81) 25 3 (.int .i64 0) 8 rfl Try.underlying25 info3 rfl (by decide) (by omega) u14 x14_3 ji24 [.int .i64 ji24] (fun _ => True) (fun _ => False) rfl rfl ?aP (fun _ hk => hk.elim) ?aF ?aO ?aB ?aS ?aL ?_; (case aP => exact rfl); (case aB => exact (by repeat (first | (with_reducible first | exact HB.out | apply below_alloc | apply pw_below_drewN | apply below_drew1) | exact HB.out))); (case aF => exact (fun _ _ => trivial)); (case aO => exact (by (with_reducible repeat (first | apply Kd.R_alloc | apply Kd.R_drewN | apply Kd.R_drew)); exact HO_14.out)); (case aS => exact (below_size (by repeat (first | (with_reducible first | exact HB.out | apply below_alloc | apply pw_below_drewN | apply below_drew1) | exact HB.out)))); (case aL => have := LMc25.out; omega); intro v141 w26 ho hb hg hat; rw [← Ny140.out] at ho; have n0_ := Aside0.mk (Kd.N_afterv (ok := (fun _ => True)) (by (with_reducible repeat (first | apply Kd.N_alloc | apply Kd.N_drewN | apply Kd.N_drew)); exact Kd.N_mono HO_12.out (fun _ hk => ⟨trivial, hk⟩)) hg hat); have n1_ := Aside0.mk (hb); have n2_ := Aside0.mk (ho); clear HO_12; clear HB; clear HO_14; have HO_12 := n0_; have HB := n1_; have HO142 := n2_; clear n0_ n1_ n2_; clear ho hb hg hat)))
                                go_roundg k3
                                case measure => have := HJ4.out; have := HK2.out; have := HK3.out; omega
                                case rel => exact ⟨(y140), (wrap64 (x15_3 + 1)), (by first | rfl | (simp; done) | (simp [*]; done)), H', ⟨by have := HJ4.out; have := HK2.out; have := HK3.out; omega⟩, ⟨by (with_reducible repeat (first | apply Kd.N_alloc | apply Kd.N_drewN | apply Kd.N_drew)); exact Kd.N_mono HO_12.out (fun _ hk => hk.2)⟩, ⟨by (with_reducible repeat (first | apply Kd.R_alloc | apply Kd.R_drewN | apply Kd.R_drew)); exact HO142.out⟩, ⟨by repeat (first | (with_reducible first | exact HB.out | apply below_alloc | apply pw_below_drewN | apply below_drew1) | exact HB.out)⟩⟩
                              · rw [if_neg c25] at H
                                exact absurd H (by simp)
                            · rw [if_neg c23] at H
                              exact absurd H (by simp)
                          · rw [if_neg c22] at H
                            have c22b0 : decide (x15_3 < ((rd_L3 l0 x13_2).length : Int)) = false := decide_eq_false c22
                            clear c22
                            by_cases c27 : x14_3.length < 17592186044416
                            · rw [if_pos c27] at H
                              have LMc27 := Aside0.mk c27
                              clear c27
                              obtain ⟨y143, hy143⟩ : ∃ y_ : List Int, y_ = (x14_3 ++ [(wrap64 (1 + (Int.tmod (wrap64 (a2)) 40)))]) := ⟨_, rfl⟩
                              replace H : (drumlinelaw15_AgesGone.l1 k3 l0 l1 (wrap64 (1 + (Int.tmod (wrap64 (a2)) 40))) (l0.length : Int) (Int.tmod (wrap64 (a3)) (l0.length : Int)) x12_2 x13_2 y143 (wrap64 (x15_3 + 1))) = some r := by first | (rw [hy143]; with_reducible exact H) | (have H2_ := (Option.bind_some _ _).symm.trans H; rw [hy143]; with_reducible exact H2_) | (have H2_ := (Option.bind_some _ _).symm.trans H; with_reducible exact H2_) | with_reducible exact H | (rw [hy143]; exact H) | exact H
                              have Ny143 := Aside0.mk hy143
                              clear hy143
                              have H' := Aside0.mk H
                              clear H
                              have p137 : 0 ≤ (x13_2 : Int) := of_decide_eq_true (by first | (with_reducible assumption) | assumption)
                              have q137 : x13_2 < (l0.length : Int) := of_decide_eq_true (by first | (with_reducible assumption) | assumption)
                              obtain ⟨ad137, A137_0, c137_0, e137, hx137_0, hl137_0, hi137_0⟩ := at_L3 HR0.out x13_2 p137 q137
                              cases e137
                              replace hx137_0 := (HB.out.cell (World.block_lt_of_cell? w _ hx137_0)).trans hx137_0
                              have HR137_0 := Aside0.mk hi137_0
                              have HC137_0 := Aside0.mk hl137_0
                              clear hi137_0 hl137_0
                              replace p137 := eq_true p137
                              replace q137 := eq_true q137
                              go_wp2_with (first | ((with_reducible refine gate_builtin (b := .append) (xs := #[.tmp 79, .tmp 81]) rfl ?_); (try (refine gate_guard (by rfl) ?_; dsimp only)); at_builtin; refine Kd.R_append (Kd.int .i64) (w0 := w) w.heap.size rfl (.tmp 79) (.tmp 81) 25 3 (.int .i64 0) 8 rfl Try.underlying25 info3 rfl (by decide) (by omega) u14 x14_3 (wrap64 (1 + (Int.tmod (wrap64 (a2)) 40))) [.int .i64 (wrap64 (1 + (Int.tmod (wrap64 (a2)) 40)))] (fun _ => True) (fun _ => False) rfl rfl ?aP (fun _ hk => hk.elim) ?aF ?aO ?aB ?aS ?aL ?_; (case aP => exact rfl); (case aB => exact (by repeat (first | (with_reducible first | exact HB.out | apply below_alloc | apply pw_below_drewN | apply below_drew1) | exact HB.out))); (case aF => exact (fun _ _ => trivial)); (case aO => exact (by (with_reducible repeat (first | apply Kd.R_alloc | apply Kd.R_drewN | apply Kd.R_drew)); exact HO_14.out)); (case aS => exact (below_size (by repeat (first | (with_reducible first | exact HB.out | apply below_alloc | apply pw_below_drewN | apply below_drew1) | exact HB.out)))); (case aL => have := LMc27.out; omega); intro v144 w28 ho hb hg hat; rw [← Ny143.out] at ho; have n0_ := Aside0.mk (Kd.N_afterv (ok := (fun _ => True)) (by (with_reducible repeat (first | apply Kd.N_alloc | apply Kd.N_drewN | apply Kd.N_drew)); exact Kd.N_mono HO_12.out (fun _ hk => ⟨trivial, hk⟩)) hg hat); have n1_ := Aside0.mk (hb); have n2_ := Aside0.mk (ho); clear HO_12; clear HB; clear HO_14; have HO_12 := n0_; have HB := n1_; have HO145 := n2_; clear n0_ n1_ n2_; clear ho hb hg hat))
                              repeat (go_quiet (first | ((with_reducible refine gate_builtin (b := .append) (xs := #[.tmp 79, .tmp 81]) rfl ?_); (try (refine gate_guard (by rfl) ?_; dsimp only)); at_builtin; refine Kd.R_append (Kd.int .i64) (w0 := w) w.heap.size rfl (.tmp 79) (.tmp 81) 25 3 (.int .i64 0) 8 rfl Try.underlying25 info3 rfl (by decide) (by omega) u14 x14_3 (wrap64 (1 + (Int.tmod (wrap64 (a2)) 40))) [.int .i64 (wrap64 (1 + (Int.tmod (wrap64 (a2)) 40)))] (fun _ => True) (fun _ => False) rfl rfl ?aP (fun _ hk => hk.elim) ?aF ?aO ?aB ?aS ?aL ?_; (case aP => exact rfl); (case aB => exact (by repeat (first | (with_reducible first | exact HB.out | apply below_alloc | apply pw_below_drewN | apply below_drew1) | exact HB.out))); (case aF => exact (fun _ _ => trivial)); (case aO => exact (by (with_reducible repeat (first | apply Kd.R_alloc | apply Kd.R_drewN | apply Kd.R_drew)); exact HO_14.out)); (case aS => exact (below_size (by repeat (first | (with_reducible first | exact HB.out | apply below_alloc | apply pw_below_drewN | apply below_drew1) | exact HB.out)))); (case aL => have := LMc27.out; omega); intro v144 w28 ho hb hg hat; rw [← Ny143.out] at ho; have n0_ := Aside0.mk (Kd.N_afterv (ok := (fun _ => True)) (by (with_reducible repeat (first | apply Kd.N_alloc | apply Kd.N_drewN | apply Kd.N_drew)); exact Kd.N_mono HO_12.out (fun _ hk => ⟨trivial, hk⟩)) hg hat); have n1_ := Aside0.mk (hb); have n2_ := Aside0.mk (ho); clear HO_12; clear HB; clear HO_14; have HO_12 := n0_; have HB := n1_; have HO145 := n2_; clear n0_ n1_ n2_; clear ho hb hg hat)); try go_wp2_with (first | ((with_reducible refine gate_builtin (b := .append) (xs := #[.tmp 79, .tmp 81]) rfl ?_); (try (refine gate_guard (by rfl) ?_; dsimp only)); at_builtin; refine Kd.R_append (Kd.int .i64) (w0 := w) w.heap.size rfl (.tmp 79) (.tmp 81) 25 3 (.int .i64 0) 8 rfl Try.underlying25 info3 rfl (by decide) (by omega) u14 x14_3 (wrap64 (1 + (Int.tmod (wrap64 (a2)) 40))) [.int .i64 (wrap64 (1 + (Int.tmod (wrap64 (a2)) 40)))] (fun _ => True) (fun _ => False) rfl rfl ?aP (fun _ hk => hk.elim) ?aF ?aO ?aB ?aS ?aL ?_; (case aP => exact rfl); (case aB => exact (by repeat (first | (with_reducible first | exact HB.out | apply below_alloc | apply pw_below_drewN | apply below_drew1) | exact HB.out))); (case aF => exact (fun _ _ => trivial)); (case aO => exact (by (with_reducible repeat (first | apply Kd.R_alloc | apply Kd.R_drewN | apply Kd.R_drew)); exact HO_14.out)); (case aS => exact (below_size (by repeat (first | (with_reducible first | exact HB.out | apply below_alloc | apply pw_below_drewN | apply below_drew1) | exact HB.out)))); (case aL => have := LMc27.out; omega); intro v144 w28 ho hb hg hat; rw [← Ny143.out] at ho; have n0_ := Aside0.mk (Kd.N_afterv (ok := (fun _ => True)) (by (with_reducible repeat (first | apply Kd.N_alloc | apply Kd.N_drewN | apply Kd.N_drew)); exact Kd.N_mono HO_12.out (fun _ hk => ⟨trivial, hk⟩)) hg hat); have n1_ := Aside0.mk (hb); have n2_ := Aside0.mk (ho); clear HO_12; clear HB; clear HO_14; have HO_12 := n0_; have HB := n1_; have HO145 := n2_; clear n0_ n1_ n2_; clear ho hb hg hat)))
                              go_roundg k3
                              case measure => have := HJ4.out; have := HK2.out; have := HK3.out; omega
                              case rel => exact ⟨(y143), (wrap64 (x15_3 + 1)), (by first | rfl | (simp; done) | (simp [*]; done)), H', ⟨by have := HJ4.out; have := HK2.out; have := HK3.out; omega⟩, ⟨by (with_reducible repeat (first | apply Kd.N_alloc | apply Kd.N_drewN | apply Kd.N_drew)); exact Kd.N_mono HO_12.out (fun _ hk => hk.2)⟩, ⟨by (with_reducible repeat (first | apply Kd.R_alloc | apply Kd.R_drewN | apply Kd.R_drew)); exact HO145.out⟩, ⟨by repeat (first | (with_reducible first | exact HB.out | apply below_alloc | apply pw_below_drewN | apply below_drew1) | exact HB.out)⟩⟩
                            · rw [if_neg c27] at H
                              exact absurd H (by simp)
                        · rw [if_neg c21] at H
                          exact absurd H (by simp)
                      · rw [if_neg c20] at H
                        exact absurd H (by simp)
                    · rw [if_neg c19] at H
                      have c19b0 : decide (x15_3 < (l0.length : Int)) = false := decide_eq_false c19
                      clear c19
                      by_cases c29 : x12_2.length < 5864062014805
                      · rw [if_pos c29] at H
                        have LMc29 := Aside0.mk c29
                        clear c29
                        obtain ⟨y146, hy146⟩ : ∃ y_ : List (List Int), y_ = (x12_2 ++ [x14_3]) := ⟨_, rfl⟩
                        replace H : (drumlinelaw15_AgesGone.l0 k3 l0 l1 (wrap64 (1 + (Int.tmod (wrap64 (a2)) 40))) (l0.length : Int) (Int.tmod (wrap64 (a3)) (l0.length : Int)) y146 (wrap64 (x13_2 + 1))) = some r := by first | (rw [hy146]; with_reducible exact H) | (have H2_ := (Option.bind_some _ _).symm.trans H; rw [hy146]; with_reducible exact H2_) | (have H2_ := (Option.bind_some _ _).symm.trans H; with_reducible exact H2_) | with_reducible exact H | (rw [hy146]; exact H) | exact H
                        have Ny146 := Aside0.mk hy146
                        clear hy146
                        have H' := Aside0.mk H
                        clear H
                        obtain ⟨Ao31, co31, eo31⟩ := Kd.R_slice HO_14.out
                        subst eo31
                        go_wp2_with (first | ((with_reducible refine gate_builtin (b := .append) (xs := #[.tmp 83, .tmp 85]) rfl ?_); (try (refine gate_guard (by rfl) ?_; dsimp only)); at_builtin; refine Kd.N_append (Kd.slice 3 (Kd.int .i64)) (w0 := w) w.heap.size rfl (.tmp 83) (.tmp 85) 26 25 (.slice none 0 0) 24 rfl Try.underlying26 info25 rfl (by decide) (by omega) u12 x12_2 x14_3 [.slice Ao31 x14_3.length co31] (fun _ => True) (fun k_ => ((fun _ => True)) k_ ∧ some k_ ≠ (u12 : Value).ownBlock) rfl rfl ?aP (fun _ hk => hk) ?aF ?aO ?aB ?aS ?aL ?_; (case aP => exact (Kd.FK_slice_mk (Kd.R_reads' (Kd.R_mono (ok' := (fun k_ => ((fun _ => True)) k_ ∧ some k_ ≠ (u12 : Value).ownBlock)) (Kd.R_apart' (HO_14.out) (Kd.N_typed HO_12.out) (by decide)) (fun k_ hk => ⟨trivial, hk.2⟩))).2.1 (Kd.R_F (Kd.R_mono (ok' := (fun k_ => ((fun _ => True)) k_ ∧ some k_ ≠ (u12 : Value).ownBlock)) (Kd.R_apart' (HO_14.out) (Kd.N_typed HO_12.out) (by decide)) (fun k_ hk => ⟨trivial, hk.2⟩))))); (case aB => exact (by repeat (first | (with_reducible first | exact HB.out | apply below_alloc | apply pw_below_drewN | apply below_drew1) | exact HB.out))); (case aF => exact (fun _ _ => trivial)); (case aO => exact (by (with_reducible repeat (first | apply Kd.N_alloc | apply Kd.N_drewN | apply Kd.N_drew)); exact Kd.N_mono HO_12.out (fun _ hk => trivial))); (case aS => exact (below_size (by repeat (first | (with_reducible first | exact HB.out | apply below_alloc | apply pw_below_drewN | apply below_drew1) | exact HB.out)))); (case aL => have := LMc29.out; omega); intro v147 w30 ho hb hg hat; rw [← Ny146.out] at ho; have n0_ := Aside0.mk (hb); have n1_ := Aside0.mk (ho); clear HB; clear HO_12; clear HO_14; have HB := n0_; have HO148 := n1_; clear n0_ n1_; clear ho hb hg hat))
                        repeat (go_quiet (first | ((with_reducible refine gate_builtin (b := .append) (xs := #[.tmp 83, .tmp 85]) rfl ?_); (try (refine gate_guard (by rfl) ?_; dsimp only)); at_builtin; refine Kd.N_append (Kd.slice 3 (Kd.int .i64)) (w0 := w) w.heap.size rfl (.tmp 83) (.tmp 85) 26 25 (.slice none 0 0) 24 rfl Try.underlying26 info25 rfl (by decide) (by omega) u12 x12_2 x14_3 [.slice Ao31 x14_3.length co31] (fun _ => True) (fun k_ => ((fun _ => True)) k_ ∧ some k_ ≠ (u12 : Value).ownBlock) rfl rfl ?aP (fun _ hk => hk) ?aF ?aO ?aB ?aS ?aL ?_; (case aP => exact (Kd.FK_slice_mk (Kd.R_reads' (Kd.R_mono (ok' := (fun k_ => ((fun _ => True)) k_ ∧ some k_ ≠ (u12 : Value).ownBlock)) (Kd.R_apart' (HO_14.out) (Kd.N_typed HO_12.out) (by decide)) (fun k_ hk => ⟨trivial, hk.2⟩))).2.1 (Kd.R_F (Kd.R_mono (ok' := (fun k_ => ((fun _ => True)) k_ ∧ some k_ ≠ (u12 : Value).ownBlock)) (Kd.R_apart' (HO_14.out) (Kd.N_typed HO_12.out) (by decide)) (fun k_ hk => ⟨trivial, hk.2⟩))))); (case aB => exact (by repeat (first | (with_reducible first | exact HB.out | apply below_alloc | apply pw_below_drewN | apply below_drew1) | exact HB.out))); (case aF => exact (fun _ _ => trivial)); (case aO => exact (by (with_reducible repeat (first | apply Kd.N_alloc | apply Kd.N_drewN | apply Kd.N_drew)); exact Kd.N_mono HO_12.out (fun _ hk => trivial))); (case aS => exact (below_size (by repeat (first | (with_reducible first | exact HB.out | apply below_alloc | apply pw_below_drewN | apply below_drew1) | exact HB.out)))); (case aL => have := LMc29.out; omega); intro v147 w30 ho hb hg hat; rw [← Ny146.out] at ho; have n0_ := Aside0.mk (hb); have n1_ := Aside0.mk (ho); clear HB; clear HO_12; clear HO_14; have HB := n0_; have HO148 := n1_; clear n0_ n1_; clear ho hb hg hat)); try go_wp2_with (first | ((with_reducible refine gate_builtin (b := .append) (xs := #[.tmp 83, .tmp 85]) rfl ?_); (try (refine gate_guard (by rfl) ?_; dsimp only)); at_builtin; refine Kd.N_append (Kd.slice 3 (Kd.int .i64)) (w0 := w) w.heap.size rfl (.tmp 83) (.tmp 85) 26 25 (.slice none 0 0) 24 rfl Try.underlying26 info25 rfl (by decide) (by omega) u12 x12_2 x14_3 [.slice Ao31 x14_3.length co31] (fun _ => True) (fun k_ => ((fun _ => True)) k_ ∧ some k_ ≠ (u12 : Value).ownBlock) rfl rfl ?aP (fun _ hk => hk) ?aF ?aO ?aB ?aS ?aL ?_; (case aP => exact (Kd.FK_slice_mk (Kd.R_reads' (Kd.R_mono (ok' := (fun k_ => ((fun _ => True)) k_ ∧ some k_ ≠ (u12 : Value).ownBlock)) (Kd.R_apart' (HO_14.out) (Kd.N_typed HO_12.out) (by decide)) (fun k_ hk => ⟨trivial, hk.2⟩))).2.1 (Kd.R_F (Kd.R_mono (ok' := (fun k_ => ((fun _ => True)) k_ ∧ some k_ ≠ (u12 : Value).ownBlock)) (Kd.R_apart' (HO_14.out) (Kd.N_typed HO_12.out) (by decide)) (fun k_ hk => ⟨trivial, hk.2⟩))))); (case aB => exact (by repeat (first | (with_reducible first | exact HB.out | apply below_alloc | apply pw_below_drewN | apply below_drew1) | exact HB.out))); (case aF => exact (fun _ _ => trivial)); (case aO => exact (by (with_reducible repeat (first | apply Kd.N_alloc | apply Kd.N_drewN | apply Kd.N_drew)); exact Kd.N_mono HO_12.out (fun _ hk => trivial))); (case aS => exact (below_size (by repeat (first | (with_reducible first | exact HB.out | apply below_alloc | apply pw_below_drewN | apply below_drew1) | exact HB.out)))); (case aL => have := LMc29.out; omega); intro v147 w30 ho hb hg hat; rw [← Ny146.out] at ho; have n0_ := Aside0.mk (hb); have n1_ := Aside0.mk (ho); clear HB; clear HO_12; clear HO_14; have HB := n0_; have HO148 := n1_; clear n0_ n1_; clear ho hb hg hat)))
                        go_roundg k3
                        case measure => have := HJ4.out; have := HK2.out; have := HK3.out; omega
                        case rel => exact ⟨(y146), (wrap64 (x13_2 + 1)), (by first | rfl | (simp; done) | (simp [*]; done)), H', ⟨by have := HJ4.out; have := HK2.out; have := HK3.out; omega⟩, ⟨by (with_reducible repeat (first | apply Kd.N_alloc | apply Kd.N_drewN | apply Kd.N_drew)); exact HO148.out⟩, ⟨by repeat (first | (with_reducible first | exact HB.out | apply below_alloc | apply pw_below_drewN | apply below_drew1) | exact HB.out)⟩⟩
                      · rw [if_neg c29] at H
                        exact absurd H (by simp)
              · rw [if_neg c18] at H
                have c18b0 : decide (x13_2 < (l0.length : Int)) = false := decide_eq_false c18
                clear c18
                have H' := Aside0.mk H
                clear H
                go_wp2
                repeat (go_quiet (fail); try go_wp2)
                go_loopg [12, 17] k2 (fun kq v12 v17 w' => ∃ (x12_3 : List (List Int)) (x17_3 : Int), v17 = .int .i64 x17_3 ∧ Aside0 (drumlinelaw15_AgesGone.l2 kq l1 (wrap64 (1 + (Int.tmod (wrap64 (a2)) 40))) (l0.length : Int) (Int.tmod (wrap64 (a3)) (l0.length : Int)) x12_3 x17_3 = some r) ∧ Aside0 (kq ≤ k2) ∧ Aside0 (Kd.N (Kd.slice 3 (Kd.int .i64)) 25 w' w.heap.size (fun _ => True) v12 x12_3) ∧ Aside0 (Below w.heap.size w w'))
                case atStart => exact ⟨(x12_2), (0), (by first | rfl | (simp; done) | (simp [*]; done)), H', ⟨Nat.le_refl _⟩, ⟨by (with_reducible repeat (first | apply Kd.N_alloc | apply Kd.N_drewN | apply Kd.N_drew)); exact HO_12.out⟩, ⟨by repeat (first | (with_reducible first | exact HB.out | apply below_alloc | apply pw_below_drewN | apply below_drew1) | exact HB.out)⟩⟩
                case round =>
                  clear H'
                  try clear c1
                  try clear p1
                  try clear q1
                  try clear hx1
                  try clear c2
                  try clear p2
                  try clear c4
                  try clear p6
                  try clear c7
                  try clear c8
                  try clear c8b0
                  try clear c8b1
                  try clear c10
                  try clear c10b0
                  try clear c10b1
                  try clear c13
                  try clear p13
                  try clear q13
                  try clear hx13
                  try clear c14
                  try clear c17
                  try clear c17b0
                  try clear c17b1
                  try clear c17b2
                  try clear c18
                  try clear c18b0
                  try clear c19
                  try clear c19b0
                  try clear c20
                  try clear c20b0
                  try clear c21
                  try clear c21b0
                  try clear c22
                  try clear c22b0
                  try clear c23
                  try clear c23b0
                  try clear c25
                  try clear c27
                  try clear c29
                  try clear hx137_0
                  try clear hx138_0
                  try clear hx139_0
                  try clear p137
                  try clear p138
                  try clear p139
                  try clear p2
                  try clear p6
                  try clear q137
                  try clear q138
                  try clear q139
                  obtain ⟨x12_3, x17_3, rfl, HA, HK3, HO_12, HB⟩ := hrel
                  cases gk with
                  | zero => exact absurd HA.out (by simp [drumlinelaw15_AgesGone.l2])
                  | succ k3 =>
                    have H := HA.out
                    clear HA
                    simp only [drumlinelaw15_AgesGone.l2] at H
                    by_cases c32 : x17_3 < (wrap64 (1 + (Int.tmod (wrap64 (a2)) 40)))
                    · rw [if_pos c32] at H
                      have c32b0 : decide (x17_3 < (wrap64 (1 + (Int.tmod (wrap64 (a2)) 40)))) = true := decide_eq_true c32
                      clear c32
                      have H' := Aside0.mk H
                      clear H
                      go_wp2
                      repeat (go_quiet (fail); try go_wp2)
                      go_loopg [18, 19] k3 (fun kq v18 v19 w' => ∃ (x18_4 : List (List Int)) (x19_4 : Int), v19 = .int .i64 x19_4 ∧ Aside0 (drumlinelaw15_AgesGone.l3 kq l1 (wrap64 (1 + (Int.tmod (wrap64 (a2)) 40))) (l0.length : Int) (Int.tmod (wrap64 (a3)) (l0.length : Int)) x12_3 x17_3 x18_4 x19_4 = some r) ∧ Aside0 (kq ≤ k3) ∧ Aside0 (Kd.N (Kd.slice 3 (Kd.int .i64)) 25 w' w.heap.size (fun k_ => some k_ ≠ (v18 : Value).ownBlock) u12 x12_3) ∧ Aside0 (Kd.N (Kd.slice 3 (Kd.int .i64)) 25 w' w.heap.size (fun k_ => some k_ ≠ (u12 : Value).ownBlock) v18 x18_4) ∧ Aside0 (Below w.heap.size w w'))
                      case atStart => exact ⟨(([] : List (List Int))), (0), (by first | rfl | (simp; done) | (simp [*]; done)), H', ⟨Nat.le_refl _⟩, ⟨by (with_reducible repeat (first | apply Kd.N_alloc | apply Kd.N_drewN | apply Kd.N_drew)); exact Kd.N_mono HO_12.out (fun _ hk => (by simp [Value.ownBlock]))⟩, ⟨by first | exact Kd.S_nil _ _ _ _ _ | exact Kd.N_nil _ _ _ _ _ | exact Kd.V_nil _ _ _ _ _ | exact Kd.Q_nil _ _ _ _ _ | exact Kd.R_nil _ _ _ _ _⟩, ⟨by repeat (first | (with_reducible first | exact HB.out | apply below_alloc | apply pw_below_drewN | apply below_drew1) | exact HB.out)⟩⟩
                      case round =>
                        clear H'
                        try clear c1
                        try clear p1
                        try clear q1
                        try clear hx1
                        try clear c2
                        try clear p2
                        try clear c3
                        try clear c4
                        try clear p6
                        try clear c7
                        try clear c8
                        try clear c8b0
                        try clear c8b1
                        try clear c10
                        try clear c10b0
                        try clear c10b1
                        try clear c13
                        try clear p13
                        try clear q13
                        try clear hx13
                        try clear c14
                        try clear c17
                        try clear c17b0
                        try clear c17b1
                        try clear c17b2
                        try clear c18
                        try clear c18b0
                        try clear c19
                        try clear c19b0
                        try clear c20
                        try clear c20b0
                        try clear c21
                        try clear c21b0
                        try clear c22
                        try clear c22b0
                        try clear c23
                        try clear c23b0
                        try clear c25
                        try clear c27
                        try clear c29
                        try clear c32
                        try clear c32b0
                        try clear hx137_0
                        try clear hx138_0
                        try clear hx139_0
                        try clear p1
                        try clear p13
                        try clear p137
                        try clear p138
                        try clear p139
                        try clear p2
                        try clear p6
                        try clear q1
                        try clear q13
                        try clear q137
                        try clear q138
                        try clear q139
                        obtain ⟨x18_4, x19_4, rfl, HA, HK4, HO_12, HO_18, HB⟩ := hrel
                        cases gk with
                        | zero => exact absurd HA.out (by simp [drumlinelaw15_AgesGone.l3])
                        | succ k4 =>
                          have H := HA.out
                          clear HA
                          simp only [drumlinelaw15_AgesGone.l3] at H
                          by_cases c33 : x19_4 < (l0.length : Int)
                          · rw [if_pos c33] at H
                            have c33b0 : decide (x19_4 < (l0.length : Int)) = true := decide_eq_true c33
                            clear c33
                            have H' := Aside0.mk H
                            clear H
                            go_wp2
                            repeat (go_quiet (fail); try go_wp2)
                            go_loopg [20, 21] k4 (fun kq v20 v21 w' => ∃ (x20_5 : List (List Int)) (x21_5 : Int), v21 = .int .i64 x21_5 ∧ Aside0 (drumlinelaw15_AgesGone.l4 kq l1 (wrap64 (1 + (Int.tmod (wrap64 (a2)) 40))) (l0.length : Int) (Int.tmod (wrap64 (a3)) (l0.length : Int)) x12_3 x17_3 x18_4 x19_4 x20_5 x21_5 = some r) ∧ Aside0 (kq ≤ k4) ∧ Aside0 (Kd.N (Kd.slice 3 (Kd.int .i64)) 25 w' w.heap.size (fun k_ => some k_ ≠ (u18 : Value).ownBlock ∧ some k_ ≠ (v20 : Value).ownBlock) u12 x12_3) ∧ Aside0 (Kd.N (Kd.slice 3 (Kd.int .i64)) 25 w' w.heap.size (fun k_ => some k_ ≠ (u12 : Value).ownBlock ∧ some k_ ≠ (v20 : Value).ownBlock) u18 x18_4) ∧ Aside0 (Kd.N (Kd.slice 3 (Kd.int .i64)) 25 w' w.heap.size (fun k_ => some k_ ≠ (u12 : Value).ownBlock ∧ some k_ ≠ (u18 : Value).ownBlock) v20 x20_5) ∧ Aside0 (Below w.heap.size w w'))
                            case atStart => exact ⟨(([] : List (List Int))), (0), (by first | rfl | (simp; done) | (simp [*]; done)), H', ⟨Nat.le_refl _⟩, ⟨by (with_reducible repeat (first | apply Kd.N_alloc | apply Kd.N_drewN | apply Kd.N_drew)); exact Kd.N_mono HO_12.out (fun _ hk => ⟨hk, (by simp [Value.ownBlock])⟩)⟩, ⟨by (with_reducible repeat (first | apply Kd.N_alloc | apply Kd.N_drewN | apply Kd.N_drew)); exact Kd.N_mono HO_18.out (fun _ hk => ⟨hk, (by simp [Value.ownBlock])⟩)⟩, ⟨by first | exact Kd.S_nil _ _ _ _ _ | exact Kd.N_nil _ _ _ _ _ | exact Kd.V_nil _ _ _ _ _ | exact Kd.Q_nil _ _ _ _ _ | exact Kd.R_nil _ _ _ _ _⟩, ⟨by repeat (first | (with_reducible first | exact HB.out | apply below_alloc | apply pw_below_drewN | apply below_drew1) | exact HB.out)⟩⟩
                            case round =>
                              clear H'
                              try clear c1
                              try clear p1
                              try clear q1
                              try clear hx1
                              try clear c2
                              try clear p2
                              try clear c3
                              try clear c4
                              try clear p6
                              try clear c7
                              try clear c8
                              try clear c8b0
                              try clear c8b1
                              try clear c10
                              try clear c10b0
                              try clear c10b1
                              try clear c13
                              try clear p13
                              try clear q13
                              try clear hx13
                              try clear c14
                              try clear c17
                              try clear c17b0
                              try clear c17b1
                              try clear c17b2
                              try clear c18
                              try clear c18b0
                              try clear c19
                              try clear c19b0
                              try clear c20
                              try clear c20b0
                              try clear c21
                              try clear c21b0
                              try clear c22
                              try clear c22b0
                              try clear c23
                              try clear c23b0
                              try clear c25
                              try clear c27
                              try clear c29
                              try clear c32
                              try clear c32b0
                              try clear c33
                              try clear c33b0
                              try clear hx137_0
                              try clear hx138_0
                              try clear hx139_0
                              try clear p1
                              try clear p13
                              try clear p137
                              try clear p138
                              try clear p139
                              try clear p2
                              try clear p6
                              try clear q1
                              try clear q13
                              try clear q137
                              try clear q138
                              try clear q139
                              obtain ⟨x20_5, x21_5, rfl, HA, HK5, HO_12, HO_18, HO_20, HB⟩ := hrel
                              cases gk with
                              | zero => exact absurd HA.out (by simp [drumlinelaw15_AgesGone.l4])
                              | succ k5 =>
                                have H := HA.out
                                clear HA
                                simp only [drumlinelaw15_AgesGone.l4] at H
                                by_cases c34 : x21_5 < (l1.length : Int)
                                · rw [if_pos c34] at H
                                  have c34b0 : decide (x21_5 < (l1.length : Int)) = true := decide_eq_true c34
                                  clear c34
                                  by_cases c35 : 0 ≤ x21_5
                                  · rw [if_pos c35] at H
                                    have c35b0 : decide (0 ≤ x21_5) = true := decide_eq_true c35
                                    clear c35
                                    by_cases c36 : (l0.length : Int) = 0
                                    · rw [if_pos c36] at H
                                      exact absurd H (by simp)
                                    · rw [if_neg c36] at H
                                      have c36b0 : ((l0.length : Int) == 0) = false := beq_eq_false_iff_ne.mpr c36
                                      have c36b1 : ((l0.length : Int) != 0) = true := bne_iff_ne.mpr c36
                                      have c36b2 : ¬ (l0 = []) := fun h_ => c36 (by rw [h_]; rfl)
                                      have HC37 := Aside0.mk H
                                      clear H
                                      have p156 : 0 ≤ (x21_5 : Int) := of_decide_eq_true (by first | (with_reducible assumption) | assumption)
                                      have q156 : x21_5 < (l1.length : Int) := of_decide_eq_true (by first | (with_reducible assumption) | assumption)
                                      obtain ⟨ad156, e156, hx156_0⟩ := Kd.at_int HR1.out x21_5 p156 q156
                                      cases e156
                                      replace hx156_0 := (HB.out.cell (World.block_lt_of_cell? w _ hx156_0)).trans hx156_0
                                      replace p156 := eq_true p156
                                      replace q156 := eq_true q156
                                      have p157 : 0 ≤ (x21_5 : Int) := of_decide_eq_true (by first | (with_reducible assumption) | assumption)
                                      have q157 : x21_5 < (l1.length : Int) := of_decide_eq_true (by first | (with_reducible assumption) | assumption)
                                      obtain ⟨ad157, e157, hx157_0⟩ := Kd.at_int HR1.out x21_5 p157 q157
                                      obtain rfl : ad156 = ad157 := (by injection e157)
                                      replace hx157_0 := (HB.out.cell (World.block_lt_of_cell? w _ hx157_0)).trans hx157_0
                                      replace p157 := eq_true p157
                                      replace q157 := eq_true q157
                                      go_upto_region 31 with (fail)
                                      repeat (go_quiet (fail); go_upto_region 31 with (fail))
                                      go_cut [126] (fun v126 wc => ∃ (kq : Nat) (x126_36 : Bool), v126 = .bool x126_36 ∧ Aside0 (drumlinelaw15_AgesGone.j6 kq l1 (wrap64 (1 + (Int.tmod (wrap64 (a2)) 40))) (l0.length : Int) (Int.tmod (wrap64 (a3)) (l0.length : Int)) x12_3 x17_3 x18_4 x19_4 x20_5 x21_5 (Int.tmod (wrap64 (Go.bits .and .u8 (rd l1 x21_5) 15)) (l0.length : Int)) (Int.tmod (wrap64 ((rd l1 x21_5) / 16)) (l0.length : Int)) x126_36 = some r) ∧ Aside0 (kq ≤ k5) ∧ Aside0 (Kd.N (Kd.slice 3 (Kd.int .i64)) 25 wc w.heap.size (fun k_ => some k_ ≠ (u18 : Value).ownBlock ∧ some k_ ≠ (u20 : Value).ownBlock) u12 x12_3) ∧ Aside0 (Kd.N (Kd.slice 3 (Kd.int .i64)) 25 wc w.heap.size (fun k_ => some k_ ≠ (u12 : Value).ownBlock ∧ some k_ ≠ (u20 : Value).ownBlock) u18 x18_4) ∧ Aside0 (Kd.N (Kd.slice 3 (Kd.int .i64)) 25 wc w.heap.size (fun k_ => some k_ ≠ (u12 : Value).ownBlock ∧ some k_ ≠ (u18 : Value).ownBlock) u20 x20_5) ∧ Aside0 (Below w.heap.size w wc))
                                      case first =>
                                        have H := HC37.out
                                        clear HC37
                                        by_cases c38 : (Int.tmod (wrap64 (Go.bits .and .u8 (rd l1 x21_5) 15)) (l0.length : Int)) = x19_4
                                        · rw [if_pos c38] at H
                                          have c38b0 : ((Int.tmod (wrap64 (Go.bits .and .u8 (rd l1 x21_5) 15)) (l0.length : Int)) == x19_4) = true := beq_iff_eq.mpr c38
                                          have c38b1 : ((Int.tmod (wrap64 (Go.bits .and .u8 (rd l1 x21_5) 15)) (l0.length : Int)) != x19_4) = false := bne_eq_false_iff_eq.mpr c38
                                          clear c38
                                          (first | rw [c38b0] | (simp only [i64_w, i32_w]; rw [c38b0]) | skip)
                                          have H' := Aside0.mk H
                                          clear H
                                          go_wp2
                                          repeat (go_quiet (fail); try go_wp2)
                                          go_meet
                                          case rel => exact ⟨_, (((Int.tmod (wrap64 ((rd l1 x21_5) / 16)) (l0.length : Int)) != (Int.tmod (wrap64 (a3)) (l0.length : Int)))), (by first | rfl | (simp; done) | (simp [*]; done)), H', ⟨by have := HJ4.out; have := HK2.out; have := HK3.out; have := HK4.out; have := HK5.out; first | omega | exact Nat.le_refl _⟩, ⟨by (with_reducible repeat (first | apply Kd.N_alloc | apply Kd.N_drewN | apply Kd.N_drew)); exact HO_12.out⟩, ⟨by (with_reducible repeat (first | apply Kd.N_alloc | apply Kd.N_drewN | apply Kd.N_drew)); exact HO_18.out⟩, ⟨by (with_reducible repeat (first | apply Kd.N_alloc | apply Kd.N_drewN | apply Kd.N_drew)); exact HO_20.out⟩, ⟨by repeat (first | (with_reducible first | exact HB.out | apply below_alloc | apply pw_below_drewN | apply below_drew1) | exact HB.out)⟩⟩
                                        · rw [if_neg c38] at H
                                          have c38b0 : ((Int.tmod (wrap64 (Go.bits .and .u8 (rd l1 x21_5) 15)) (l0.length : Int)) == x19_4) = false := beq_eq_false_iff_ne.mpr c38
                                          have c38b1 : ((Int.tmod (wrap64 (Go.bits .and .u8 (rd l1 x21_5) 15)) (l0.length : Int)) != x19_4) = true := bne_iff_ne.mpr c38
                                          (first | rw [c38b0] | (simp only [i64_w, i32_w]; rw [c38b0]) | skip)
                                          have H' := Aside0.mk H
                                          clear H
                                          go_wp2
                                          repeat (go_quiet (fail); try go_wp2)
                                          go_meet
                                          case rel => exact ⟨_, (false), (by first | rfl | (simp; done) | (simp [*]; done)), H', ⟨by have := HJ4.out; have := HK2.out; have := HK3.out; have := HK4.out; have := HK5.out; first | omega | exact Nat.le_refl _⟩, ⟨by (with_reducible repeat (first | apply Kd.N_alloc | apply Kd.N_drewN | apply Kd.N_drew)); exact HO_12.out⟩, ⟨by (with_reducible repeat (first | apply Kd.N_alloc | apply Kd.N_drewN | apply Kd.N_drew)); exact HO_18.out⟩, ⟨by (with_reducible repeat (first | apply Kd.N_alloc | apply Kd.N_drewN | apply Kd.N_drew)); exact HO_20.out⟩, ⟨by repeat (first | (with_reducible first | exact HB.out | apply below_alloc | apply pw_below_drewN | apply below_drew1) | exact HB.out)⟩⟩
                                      case rest =>
                                        clear HC37
                                        try clear c1
                                        try clear p1
                                        try clear q1
                                        try clear hx1
                                        try clear c2
                                        try clear p2
                                        try clear c3
                                        try clear c4
                                        try clear p6
                                        try clear c7
                                        try clear c8
                                        try clear c8b0
                                        try clear c8b1
                                        try clear c10
                                        try clear c10b0
                                        try clear c10b1
                                        try clear c13
                                        try clear p13
                                        try clear q13
                                        try clear hx13
                                        try clear c14
                                        try clear p15
                                        try clear q15
                                        try clear hx15
                                        try clear c17
                                        try clear c17b0
                                        try clear c17b1
                                        try clear c17b2
                                        try clear c18
                                        try clear c18b0
                                        try clear c19
                                        try clear c19b0
                                        try clear c20
                                        try clear c20b0
                                        try clear c21
                                        try clear c21b0
                                        try clear c22
                                        try clear c22b0
                                        try clear c23
                                        try clear c23b0
                                        try clear c25
                                        try clear c27
                                        try clear c29
                                        try clear c32
                                        try clear c32b0
                                        try clear c33
                                        try clear c33b0
                                        try clear c34
                                        try clear c34b0
                                        try clear c35
                                        try clear c35b0
                                        try clear c36
                                        try clear c36b0
                                        try clear c36b1
                                        try clear c36b2
                                        try clear c38
                                        try clear c38b0
                                        try clear c38b1
                                        try clear hx137_0
                                        try clear hx138_0
                                        try clear hx139_0
                                        try clear hx156_0
                                        try clear hx157_0
                                        try clear p1
                                        try clear p13
                                        try clear p137
                                        try clear p138
                                        try clear p139
                                        try clear p156
                                        try clear p157
                                        try clear p2
                                        try clear p6
                                        try clear q1
                                        try clear q13
                                        try clear q137
                                        try clear q138
                                        try clear q139
                                        try clear q156
                                        try clear q157
                                        obtain ⟨kq, x126_36, rfl, HA, HJ36, HO_12, HO_18, HO_20, HB⟩ := hcut
                                        cases kq with
                                        | zero => exact absurd HA.out (by simp [drumlinelaw15_AgesGone.j6])
                                        | succ kj36 =>
                                          have H := HA.out
                                          clear HA
                                          simp only [drumlinelaw15_AgesGone.j6] at H
                                          by_cases c39 : x126_36 = true
                                          · subst c39
                                            have H1 : (if 0 ≤ (Int.tmod (wrap64 ((rd l1 x21_5) / 16)) (l0.length : Int)) then (if (Int.tmod (wrap64 ((rd l1 x21_5) / 16)) (l0.length : Int)) < (x12_3.length : Int) then (if x20_5.length < 5864062014805 then ((some (x20_5 ++ [rd_L1 x12_3 (Int.tmod (wrap64 ((rd l1 x21_5) / 16)) (l0.length : Int))] : List (List Int))).bind fun y159 => (if (Int.tmod (wrap64 ((rd l1 x21_5) / 16)) (l0.length : Int)) = x19_4 then (if (Int.tmod (wrap64 (Go.bits .and .u8 (rd l1 x21_5) 15)) (l0.length : Int)) = (Int.tmod (wrap64 (a3)) (l0.length : Int)) then (drumlinelaw15_AgesGone.l4 kj36 l1 (wrap64 (1 + (Int.tmod (wrap64 (a2)) 40))) (l0.length : Int) (Int.tmod (wrap64 (a3)) (l0.length : Int)) x12_3 x17_3 x18_4 x19_4 y159 (wrap64 (x21_5 + 1))) else (if 0 ≤ (Int.tmod (wrap64 (Go.bits .and .u8 (rd l1 x21_5) 15)) (l0.length : Int)) then (if (Int.tmod (wrap64 (Go.bits .and .u8 (rd l1 x21_5) 15)) (l0.length : Int)) < (x12_3.length : Int) then (if y159.length < 5864062014805 then (drumlinelaw15_AgesGone.l4 kj36 l1 (wrap64 (1 + (Int.tmod (wrap64 (a2)) 40))) (l0.length : Int) (Int.tmod (wrap64 (a3)) (l0.length : Int)) x12_3 x17_3 x18_4 x19_4 (y159 ++ [rd_L1 x12_3 (Int.tmod (wrap64 (Go.bits .and .u8 (rd l1 x21_5) 15)) (l0.length : Int))]) (wrap64 (x21_5 + 1))) else (none)) else (none)) else (none))) else (drumlinelaw15_AgesGone.l4 kj36 l1 (wrap64 (1 + (Int.tmod (wrap64 (a2)) 40))) (l0.length : Int) (Int.tmod (wrap64 (a3)) (l0.length : Int)) x12_3 x17_3 x18_4 x19_4 y159 (wrap64 (x21_5 + 1))))) else (none)) else (none)) else (none)) = some r := by rw [if_pos rfl] at H; exact H
                                            clear H
                                            have H := H1
                                            clear H1
                                            obtain ⟨ji40, hji40⟩ : ∃ j_ : Int, (Int.tmod (wrap64 ((rd l1 x21_5) / 16)) (l0.length : Int)) = j_ := ⟨_, rfl⟩
                                            replace H : (if 0 ≤ (ji40) then (if (ji40) < (x12_3.length : Int) then (if x20_5.length < 5864062014805 then ((some (x20_5 ++ [rd_L1 x12_3 (ji40)] : List (List Int))).bind fun y159 => (if (ji40) = x19_4 then (if (Int.tmod (wrap64 (Go.bits .and .u8 (rd l1 x21_5) 15)) (l0.length : Int)) = (Int.tmod (wrap64 (a3)) (l0.length : Int)) then (drumlinelaw15_AgesGone.l4 kj36 l1 (wrap64 (1 + (Int.tmod (wrap64 (a2)) 40))) (l0.length : Int) (Int.tmod (wrap64 (a3)) (l0.length : Int)) x12_3 x17_3 x18_4 x19_4 y159 (wrap64 (x21_5 + 1))) else (if 0 ≤ (Int.tmod (wrap64 (Go.bits .and .u8 (rd l1 x21_5) 15)) (l0.length : Int)) then (if (Int.tmod (wrap64 (Go.bits .and .u8 (rd l1 x21_5) 15)) (l0.length : Int)) < (x12_3.length : Int) then (if y159.length < 5864062014805 then (drumlinelaw15_AgesGone.l4 kj36 l1 (wrap64 (1 + (Int.tmod (wrap64 (a2)) 40))) (l0.length : Int) (Int.tmod (wrap64 (a3)) (l0.length : Int)) x12_3 x17_3 x18_4 x19_4 (y159 ++ [rd_L1 x12_3 (Int.tmod (wrap64 (Go.bits .and .u8 (rd l1 x21_5) 15)) (l0.length : Int))]) (wrap64 (x21_5 + 1))) else (none)) else (none)) else (none))) else (drumlinelaw15_AgesGone.l4 kj36 l1 (wrap64 (1 + (Int.tmod (wrap64 (a2)) 40))) (l0.length : Int) (Int.tmod (wrap64 (a3)) (l0.length : Int)) x12_3 x17_3 x18_4 x19_4 y159 (wrap64 (x21_5 + 1))))) else (none)) else (none)) else (none)) = some r := by first | (rw [hji40] at H; exact H) | (simp only [hji40] at H ⊢; exact H)
                                            by_cases c41 : 0 ≤ (ji40)
                                            · rw [if_pos c41] at H
                                              have c41b0 : decide (0 ≤ (ji40)) = true := decide_eq_true c41
                                              clear c41
                                              by_cases c42 : (ji40) < (x12_3.length : Int)
                                              · rw [if_pos c42] at H
                                                have c42b0 : decide ((ji40) < (x12_3.length : Int)) = true := decide_eq_true c42
                                                clear c42
                                                by_cases c43 : x20_5.length < 5864062014805
                                                · rw [if_pos c43] at H
                                                  have LMc43 := Aside0.mk c43
                                                  clear c43
                                                  obtain ⟨y159, hy159⟩ : ∃ y_ : List (List Int), y_ = (x20_5 ++ [rd_L1 x12_3 (ji40)]) := ⟨_, rfl⟩
                                                  replace H : (if (ji40) = x19_4 then (if (Int.tmod (wrap64 (Go.bits .and .u8 (rd l1 x21_5) 15)) (l0.length : Int)) = (Int.tmod (wrap64 (a3)) (l0.length : Int)) then (drumlinelaw15_AgesGone.l4 kj36 l1 (wrap64 (1 + (Int.tmod (wrap64 (a2)) 40))) (l0.length : Int) (Int.tmod (wrap64 (a3)) (l0.length : Int)) x12_3 x17_3 x18_4 x19_4 y159 (wrap64 (x21_5 + 1))) else (if 0 ≤ (Int.tmod (wrap64 (Go.bits .and .u8 (rd l1 x21_5) 15)) (l0.length : Int)) then (if (Int.tmod (wrap64 (Go.bits .and .u8 (rd l1 x21_5) 15)) (l0.length : Int)) < (x12_3.length : Int) then (if y159.length < 5864062014805 then (drumlinelaw15_AgesGone.l4 kj36 l1 (wrap64 (1 + (Int.tmod (wrap64 (a2)) 40))) (l0.length : Int) (Int.tmod (wrap64 (a3)) (l0.length : Int)) x12_3 x17_3 x18_4 x19_4 (y159 ++ [rd_L1 x12_3 (Int.tmod (wrap64 (Go.bits .and .u8 (rd l1 x21_5) 15)) (l0.length : Int))]) (wrap64 (x21_5 + 1))) else (none)) else (none)) else (none))) else (drumlinelaw15_AgesGone.l4 kj36 l1 (wrap64 (1 + (Int.tmod (wrap64 (a2)) 40))) (l0.length : Int) (Int.tmod (wrap64 (a3)) (l0.length : Int)) x12_3 x17_3 x18_4 x19_4 y159 (wrap64 (x21_5 + 1)))) = some r := by first | (rw [hy159]; with_reducible exact H) | (have H2_ := (Option.bind_some _ _).symm.trans H; rw [hy159]; with_reducible exact H2_) | (have H2_ := (Option.bind_some _ _).symm.trans H; with_reducible exact H2_) | with_reducible exact H | (rw [hy159]; exact H) | exact H
                                                  have Ny159 := Aside0.mk hy159
                                                  clear hy159
                                                  by_cases c44 : (ji40) = x19_4
                                                  · rw [if_pos c44] at H
                                                    have c44b0 : ((ji40) == x19_4) = true := beq_iff_eq.mpr c44
                                                    have c44b1 : ((ji40) != x19_4) = false := bne_eq_false_iff_eq.mpr c44
                                                    clear c44
                                                    by_cases c45 : (Int.tmod (wrap64 (Go.bits .and .u8 (rd l1 x21_5) 15)) (l0.length : Int)) = (Int.tmod (wrap64 (a3)) (l0.length : Int))
                                                    · rw [if_pos c45] at H
                                                      have c45b0 : ((Int.tmod (wrap64 (Go.bits .and .u8 (rd l1 x21_5) 15)) (l0.length : Int)) == (Int.tmod (wrap64 (a3)) (l0.length : Int))) = true := beq_iff_eq.mpr c45
                                                      have c45b1 : ((Int.tmod (wrap64 (Go.bits .and .u8 (rd l1 x21_5) 15)) (l0.length : Int)) != (Int.tmod (wrap64 (a3)) (l0.length : Int))) = false := bne_eq_false_iff_eq.mpr c45
                                                      clear c45
                                                      have H' := Aside0.mk H
                                                      clear H
                                                      obtain ⟨Ao46, co46, eo46⟩ := Kd.N_slice HO_12.out
                                                      subst eo46
                                                      have p158 : 0 ≤ ((ji40) : Int) := of_decide_eq_true (by first | (with_reducible assumption) | assumption)
                                                      have q158 : (ji40) < (x12_3.length : Int) := of_decide_eq_true (by first | (with_reducible assumption) | assumption)
                                                      obtain ⟨ad158, A158_0, c158_0, e158, hx158_0, hl158_0, hi158_0⟩ := at_L1 (Kd.N_reads' HO_12.out).2.2 (ji40) p158 q158
                                                      cases e158
                                                      obtain ⟨ce158, hce158, hMe158, hcc158⟩ := Kd.N_get HO_12.out [] (ji40) p158 (by first | exact q158 | exact of_decide_eq_true (by first | (with_reducible assumption) | assumption) | (have e_ := (Kd.N_reads' HO_12.out).1; omega))
                                                      obtain ⟨ua158_0, uc158_0, rfl, ul158_0, ge158_0⟩ := Kd.FK_slice_open hMe158
                                                      have hv158_0 := hcc158 0 _ rfl
                                                      rw [Nat.add_zero, show ((Kd.slice 3 (Kd.int .i64))).sz = 1 from rfl, Nat.mul_one] at hv158_0
                                                      replace hv158_0 := Option.some.inj (hv158_0.symm.trans hx158_0)
                                                      injection hv158_0 with hva_ hvn_ hvc_
                                                      rw [hva_] at ge158_0
                                                      rw [hvc_] at ul158_0
                                                      have HL158_0 := Aside0.mk (show Kd.V (Kd.int .i64) 3 _ w.heap.size _ _ (rd_L1 x12_3 (ji40)) from Kd.V_mk ul158_0 ge158_0)
                                                      clear hva_ hvn_ hvc_ ge158_0 ul158_0
                                                      clear hcc158 hce158
                                                      have HR158_0 := Aside0.mk hi158_0
                                                      have HC158_0 := Aside0.mk hl158_0
                                                      clear hi158_0 hl158_0
                                                      replace p158 := eq_true p158
                                                      replace q158 := eq_true q158
                                                      go_wp2_with (first | ((with_reducible refine gate_builtin (b := .append) (xs := #[.tmp 127, .tmp 132]) rfl ?_); (try (refine gate_guard (by rfl) ?_; dsimp only)); at_builtin; refine Kd.N_append (Kd.slice 3 (Kd.int .i64)) (w0 := w) w.heap.size rfl (.tmp 127) (.tmp 132) 26 25 (.slice none 0 0) 24 rfl Try.underlying26 info25 rfl (by decide) (by omega) u20 x20_5 (rd_L1 x12_3 (ji40)) [.slice A158_0 (rd_L1 x12_3 (ji40)).length c158_0] (fun k_ => some k_ ≠ (.slice (some ad158) x12_3.length co46 : Value).ownBlock ∧ some k_ ≠ (u18 : Value).ownBlock) (fun k_ => ((fun k_ => some k_ ≠ (.slice (some ad158) x12_3.length co46 : Value).ownBlock ∧ some k_ ≠ (u18 : Value).ownBlock)) k_ ∧ some k_ ≠ (u20 : Value).ownBlock) rfl rfl ?aP (fun _ hk => hk) ?aF ?aO ?aB ?aS ?aL ?_; (case aP => exact (Kd.FK_slice_mk (Kd.V_reads' (Kd.V_mono (ok' := (fun k_ => ((fun k_ => some k_ ≠ (.slice (some ad158) x12_3.length co46 : Value).ownBlock ∧ some k_ ≠ (u18 : Value).ownBlock)) k_ ∧ some k_ ≠ (u20 : Value).ownBlock)) (HL158_0.out) (fun k_ hk => ⟨⟨hk.2, hk.1.1⟩, hk.1.2⟩))).2.1 (Kd.V_F (Kd.V_mono (ok' := (fun k_ => ((fun k_ => some k_ ≠ (.slice (some ad158) x12_3.length co46 : Value).ownBlock ∧ some k_ ≠ (u18 : Value).ownBlock)) k_ ∧ some k_ ≠ (u20 : Value).ownBlock)) (HL158_0.out) (fun k_ hk => ⟨⟨hk.2, hk.1.1⟩, hk.1.2⟩))))); (case aB => exact (by repeat (first | (with_reducible first | exact HB.out | apply below_alloc | apply pw_below_drewN | apply below_drew1) | exact HB.out))); (case aF => exact (fun k_ hk => ⟨Kd.fresh' (Kd.N_lt (by (with_reducible repeat (first | apply Kd.N_alloc | apply Kd.N_drewN | apply Kd.N_drew)); exact HO_12.out)) k_ hk, Kd.fresh' (Kd.N_lt (by (with_reducible repeat (first | apply Kd.N_alloc | apply Kd.N_drewN | apply Kd.N_drew)); exact HO_18.out)) k_ hk⟩)); (case aO => exact (by (with_reducible repeat (first | apply Kd.N_alloc | apply Kd.N_drewN | apply Kd.N_drew)); exact HO_20.out)); (case aS => exact (below_size (by repeat (first | (with_reducible first | exact HB.out | apply below_alloc | apply pw_below_drewN | apply below_drew1) | exact HB.out)))); (case aL => have := LMc43.out; omega); intro v160 w47 ho hb hg hat; rw [← Ny159.out] at ho; have n0_ := Aside0.mk (Kd.N_afterv (ok := (fun k_ => some k_ ≠ (u18 : Value).ownBlock)) (by (with_reducible repeat (first | apply Kd.N_alloc | apply Kd.N_drewN | apply Kd.N_drew)); exact HO_12.out) hg hat); have n1_ := Aside0.mk (Kd.N_afterv (ok := (fun k_ => some k_ ≠ (.slice (some ad158) x12_3.length co46 : Value).ownBlock)) (by (with_reducible repeat (first | apply Kd.N_alloc | apply Kd.N_drewN | apply Kd.N_drew)); exact HO_18.out) hg hat); have n2_ := Aside0.mk (Kd.V_afterv (ok := (fun k_ => some k_ ≠ (.slice (some ad158) x12_3.length co46 : Value).ownBlock ∧ some k_ ≠ (u18 : Value).ownBlock)) (by (with_reducible repeat (first | apply Kd.V_alloc | apply Kd.V_drewN | apply Kd.V_drew)); exact Kd.V_mono HL158_0.out (fun _ hk => ⟨⟨hk.2, hk.1.1⟩, hk.1.2⟩)) hg hat); have n3_ := Aside0.mk (hb); have n4_ := Aside0.mk (ho); clear HO_12; clear HO_18; clear HL158_0; clear HB; clear HO_20; have HO_12 := n0_; have HO_18 := n1_; have HL158_0 := n2_; have HB := n3_; have HO161 := n4_; clear n0_ n1_ n2_ n3_ n4_; clear ho hb hg hat))
                                                      repeat (go_quiet (first | ((with_reducible refine gate_builtin (b := .append) (xs := #[.tmp 127, .tmp 132]) rfl ?_); (try (refine gate_guard (by rfl) ?_; dsimp only)); at_builtin; refine Kd.N_append (Kd.slice 3 (Kd.int .i64)) (w0 := w) w.heap.size rfl (.tmp 127) (.tmp 132) 26 25 (.slice none 0 0) 24 rfl Try.underlying26 info25 rfl (by decide) (by omega) u20 x20_5 (rd_L1 x12_3 (ji40)) [.slice A158_0 (rd_L1 x12_3 (ji40)).length c158_0] (fun k_ => some k_ ≠ (.slice (some ad158) x12_3.length co46 : Value).ownBlock ∧ some k_ ≠ (u18 : Value).ownBlock) (fun k_ => ((fun k_ => some k_ ≠ (.slice (some ad158) x12_3.length co46 : Value).ownBlock ∧ some k_ ≠ (u18 : Value).ownBlock)) k_ ∧ some k_ ≠ (u20 : Value).ownBlock) rfl rfl ?aP (fun _ hk => hk) ?aF ?aO ?aB ?aS ?aL ?_; (case aP => exact (Kd.FK_slice_mk (Kd.V_reads' (Kd.V_mono (ok' := (fun k_ => ((fun k_ => some k_ ≠ (.slice (some ad158) x12_3.length co46 : Value).ownBlock ∧ some k_ ≠ (u18 : Value).ownBlock)) k_ ∧ some k_ ≠ (u20 : Value).ownBlock)) (HL158_0.out) (fun k_ hk => ⟨⟨hk.2, hk.1.1⟩, hk.1.2⟩))).2.1 (Kd.V_F (Kd.V_mono (ok' := (fun k_ => ((fun k_ => some k_ ≠ (.slice (some ad158) x12_3.length co46 : Value).ownBlock ∧ some k_ ≠ (u18 : Value).ownBlock)) k_ ∧ some k_ ≠ (u20 : Value).ownBlock)) (HL158_0.out) (fun k_ hk => ⟨⟨hk.2, hk.1.1⟩, hk.1.2⟩))))); (case aB => exact (by repeat (first | (with_reducible first | exact HB.out | apply below_alloc | apply pw_below_drewN | apply below_drew1) | exact HB.out))); (case aF => exact (fun k_ hk => ⟨Kd.fresh' (Kd.N_lt (by (with_reducible repeat (first | apply Kd.N_alloc | apply Kd.N_drewN | apply Kd.N_drew)); exact HO_12.out)) k_ hk, Kd.fresh' (Kd.N_lt (by (with_reducible repeat (first | apply Kd.N_alloc | apply Kd.N_drewN | apply Kd.N_drew)); exact HO_18.out)) k_ hk⟩)); (case aO => exact (by (with_reducible repeat (first | apply Kd.N_alloc | apply Kd.N_drewN | apply Kd.N_drew)); exact HO_20.out)); (case aS => exact (below_size (by repeat (first | (with_reducible first | exact HB.out | apply below_alloc | apply pw_below_drewN | apply below_drew1) | exact HB.out)))); (case aL => have := LMc43.out; omega); intro v160 w47 ho hb hg hat; rw [← Ny159.out] at ho; have n0_ := Aside0.mk (Kd.N_afterv (ok := (fun k_ => some k_ ≠ (u18 : Value).ownBlock)) (by (with_reducible repeat (first | apply Kd.N_alloc | apply Kd.N_drewN | apply Kd.N_drew)); exact HO_12.out) hg hat); have n1_ := Aside0.mk (Kd.N_afterv (ok := (fun k_ => some k_ ≠ (.slice (some ad158) x12_3.length co46 : Value).ownBlock)) (by (with_reducible repeat (first | apply Kd.N_alloc | apply Kd.N_drewN | apply Kd.N_drew)); exact HO_18.out) hg hat); have n2_ := Aside0.mk (Kd.V_afterv (ok := (fun k_ => some k_ ≠ (.slice (some ad158) x12_3.length co46 : Value).ownBlock ∧ some k_ ≠ (u18 : Value).ownBlock)) (by (with_reducible repeat (first | apply Kd.V_alloc | apply Kd.V_drewN | apply Kd.V_drew)); exact Kd.V_mono HL158_0.out (fun _ hk => ⟨⟨hk.2, hk.1.1⟩, hk.1.2⟩)) hg hat); have n3_ := Aside0.mk (hb); have n4_ := Aside0.mk (ho); clear HO_12; clear HO_18; clear HL158_0; clear HB; clear HO_20; have HO_12 := n0_; have HO_18 := n1_; have HL158_0 := n2_; have HB := n3_; have HO161 := n4_; clear n0_ n1_ n2_ n3_ n4_; clear ho hb hg hat)); try go_wp2_with (first | ((with_reducible refine gate_builtin (b := .append) (xs := #[.tmp 127, .tmp 132]) rfl ?_); (try (refine gate_guard (by rfl) ?_; dsimp only)); at_builtin; refine Kd.N_append (Kd.slice 3 (Kd.int .i64)) (w0 := w) w.heap.size rfl (.tmp 127) (.tmp 132) 26 25 (.slice none 0 0) 24 rfl Try.underlying26 info25 rfl (by decide) (by omega) u20 x20_5 (rd_L1 x12_3 (ji40)) [.slice A158_0 (rd_L1 x12_3 (ji40)).length c158_0] (fun k_ => some k_ ≠ (.slice (some ad158) x12_3.length co46 : Value).ownBlock ∧ some k_ ≠ (u18 : Value).ownBlock) (fun k_ => ((fun k_ => some k_ ≠ (.slice (some ad158) x12_3.length co46 : Value).ownBlock ∧ some k_ ≠ (u18 : Value).ownBlock)) k_ ∧ some k_ ≠ (u20 : Value).ownBlock) rfl rfl ?aP (fun _ hk => hk) ?aF ?aO ?aB ?aS ?aL ?_; (case aP => exact (Kd.FK_slice_mk (Kd.V_reads' (Kd.V_mono (ok' := (fun k_ => ((fun k_ => some k_ ≠ (.slice (some ad158) x12_3.length co46 : Value).ownBlock ∧ some k_ ≠ (u18 : Value).ownBlock)) k_ ∧ some k_ ≠ (u20 : Value).ownBlock)) (HL158_0.out) (fun k_ hk => ⟨⟨hk.2, hk.1.1⟩, hk.1.2⟩))).2.1 (Kd.V_F (Kd.V_mono (ok' := (fun k_ => ((fun k_ => some k_ ≠ (.slice (some ad158) x12_3.length co46 : Value).ownBlock ∧ some k_ ≠ (u18 : Value).ownBlock)) k_ ∧ some k_ ≠ (u20 : Value).ownBlock)) (HL158_0.out) (fun k_ hk => ⟨⟨hk.2, hk.1.1⟩, hk.1.2⟩))))); (case aB => exact (by repeat (first | (with_reducible first | exact HB.out | apply below_alloc | apply pw_below_drewN | apply below_drew1) | exact HB.out))); (case aF => exact (fun k_ hk => ⟨Kd.fresh' (Kd.N_lt (by (with_reducible repeat (first | apply Kd.N_alloc | apply Kd.N_drewN | apply Kd.N_drew)); exact HO_12.out)) k_ hk, Kd.fresh' (Kd.N_lt (by (with_reducible repeat (first | apply Kd.N_alloc | apply Kd.N_drewN | apply Kd.N_drew)); exact HO_18.out)) k_ hk⟩)); (case aO => exact (by (with_reducible repeat (first | apply Kd.N_alloc | apply Kd.N_drewN | apply Kd.N_drew)); exact HO_20.out)); (case aS => exact (below_size (by repeat (first | (with_reducible first | exact HB.out | apply below_alloc | apply pw_below_drewN | apply below_drew1) | exact HB.out)))); (case aL => have := LMc43.out; omega); intro v160 w47 ho hb hg hat; rw [← Ny159.out] at ho; have n0_ := Aside0.mk (Kd.N_afterv (ok := (fun k_ => some k_ ≠ (u18 : Value).ownBlock)) (by (with_reducible repeat (first | apply Kd.N_alloc | apply Kd.N_drewN | apply Kd.N_drew)); exact HO_12.out) hg hat); have n1_ := Aside0.mk (Kd.N_afterv (ok := (fun k_ => some k_ ≠ (.slice (some ad158) x12_3.length co46 : Value).ownBlock)) (by (with_reducible repeat (first | apply Kd.N_alloc | apply Kd.N_drewN | apply Kd.N_drew)); exact HO_18.out) hg hat); have n2_ := Aside0.mk (Kd.V_afterv (ok := (fun k_ => some k_ ≠ (.slice (some ad158) x12_3.length co46 : Value).ownBlock ∧ some k_ ≠ (u18 : Value).ownBlock)) (by (with_reducible repeat (first | apply Kd.V_alloc | apply Kd.V_drewN | apply Kd.V_drew)); exact Kd.V_mono HL158_0.out (fun _ hk => ⟨⟨hk.2, hk.1.1⟩, hk.1.2⟩)) hg hat); have n3_ := Aside0.mk (hb); have n4_ := Aside0.mk (ho); clear HO_12; clear HO_18; clear HL158_0; clear HB; clear HO_20; have HO_12 := n0_; have HO_18 := n1_; have HL158_0 := n2_; have HB := n3_; have HO161 := n4_; clear n0_ n1_ n2_ n3_ n4_; clear ho hb hg hat)))
                                                      go_roundg kj36
                                                      case measure => have := HJ4.out; have := HK2.out; have := HK3.out; have := HK4.out; have := HK5.out; have := HJ36.out; omega
                                                      case rel => exact ⟨(y159), (wrap64 (x21_5 + 1)), (by first | rfl | (simp; done) | (simp [*]; done)), H', ⟨by have := HJ4.out; have := HK2.out; have := HK3.out; have := HK4.out; have := HK5.out; have := HJ36.out; omega⟩, ⟨by (with_reducible repeat (first | apply Kd.N_alloc | apply Kd.N_drewN | apply Kd.N_drew)); exact HO_12.out⟩, ⟨by (with_reducible repeat (first | apply Kd.N_alloc | apply Kd.N_drewN | apply Kd.N_drew)); exact HO_18.out⟩, ⟨by (with_reducible repeat (first | apply Kd.N_alloc | apply Kd.N_drewN | apply Kd.N_drew)); exact HO161.out⟩, ⟨by repeat (first | (with_reducible first | exact HB.out | apply below_alloc | apply pw_below_drewN | apply below_drew1) | exact HB.out)⟩⟩
                                                    · rw [if_neg c45] at H
                                                      have c45b0 : ((Int.tmod (wrap64 (Go.bits .and .u8 (rd l1 x21_5) 15)) (l0.length : Int)) == (Int.tmod (wrap64 (a3)) (l0.length : Int))) = false := beq_eq_false_iff_ne.mpr c45
                                                      have c45b1 : ((Int.tmod (wrap64 (Go.bits .and .u8 (rd l1 x21_5) 15)) (l0.length : Int)) != (Int.tmod (wrap64 (a3)) (l0.length : Int))) = true := bne_iff_ne.mpr c45
                                                      obtain ⟨ji48, hji48⟩ : ∃ j_ : Int, (Int.tmod (wrap64 (Go.bits .and .u8 (rd l1 x21_5) 15)) (l0.length : Int)) = j_ := ⟨_, rfl⟩
                                                      replace H : (if 0 ≤ (ji48) then (if (ji48) < (x12_3.length : Int) then (if y159.length < 5864062014805 then (drumlinelaw15_AgesGone.l4 kj36 l1 (wrap64 (1 + (Int.tmod (wrap64 (a2)) 40))) (l0.length : Int) (Int.tmod (wrap64 (a3)) (l0.length : Int)) x12_3 x17_3 x18_4 x19_4 (y159 ++ [rd_L1 x12_3 (ji48)]) (wrap64 (x21_5 + 1))) else (none)) else (none)) else (none)) = some r := by first | (rw [hji48] at H; exact H) | (simp only [hji48] at H ⊢; exact H)
                                                      (try rw [hji48] at c45b0)
                                                      (try rw [hji48] at c45b1)
                                                      by_cases c49 : 0 ≤ (ji48)
                                                      · rw [if_pos c49] at H
                                                        have c49b0 : decide (0 ≤ (ji48)) = true := decide_eq_true c49
                                                        clear c49
                                                        by_cases c50 : (ji48) < (x12_3.length : Int)
                                                        · rw [if_pos c50] at H
                                                          have c50b0 : decide ((ji48) < (x12_3.length : Int)) = true := decide_eq_true c50
                                                          clear c50
                                                          by_cases c51 : y159.length < 5864062014805
                                                          · rw [if_pos c51] at H
                                                            have LMc51 := Aside0.mk c51
                                                            clear c51
                                                            obtain ⟨y163, hy163⟩ : ∃ y_ : List (List Int), y_ = (y159 ++ [rd_L1 x12_3 (ji48)]) := ⟨_, rfl⟩
                                                            replace H : (drumlinelaw15_AgesGone.l4 kj36 l1 (wrap64 (1 + (Int.tmod (wrap64 (a2)) 40))) (l0.length : Int) (Int.tmod (wrap64 (a3)) (l0.length : Int)) x12_3 x17_3 x18_4 x19_4 y163 (wrap64 (x21_5 + 1))) = some r := by first | (rw [hy163]; with_reducible exact H) | (have H2_ := (Option.bind_some _ _).symm.trans H; rw [hy163]; with_reducible exact H2_) | (have H2_ := (Option.bind_some _ _).symm.trans H; with_reducible exact H2_) | with_reducible exact H | (rw [hy163]; exact H) | exact H
                                                            have Ny163 := Aside0.mk hy163
                                                            clear hy163
                                                            have H' := Aside0.mk H
                                                            clear H
                                                            obtain ⟨Ao52, co52, eo52⟩ := Kd.N_slice HO_12.out
                                                            subst eo52
                                                            have p158 : 0 ≤ ((ji40) : Int) := of_decide_eq_true (by first | (with_reducible assumption) | assumption)
                                                            have q158 : (ji40) < (x12_3.length : Int) := of_decide_eq_true (by first | (with_reducible assumption) | assumption)
                                                            obtain ⟨ad158, A158_0, c158_0, e158, hx158_0, hl158_0, hi158_0⟩ := at_L1 (Kd.N_reads' HO_12.out).2.2 (ji40) p158 q158
                                                            cases e158
                                                            obtain ⟨ce158, hce158, hMe158, hcc158⟩ := Kd.N_get HO_12.out [] (ji40) p158 (by first | exact q158 | exact of_decide_eq_true (by first | (with_reducible assumption) | assumption) | (have e_ := (Kd.N_reads' HO_12.out).1; omega))
                                                            obtain ⟨ua158_0, uc158_0, rfl, ul158_0, ge158_0⟩ := Kd.FK_slice_open hMe158
                                                            have hv158_0 := hcc158 0 _ rfl
                                                            rw [Nat.add_zero, show ((Kd.slice 3 (Kd.int .i64))).sz = 1 from rfl, Nat.mul_one] at hv158_0
                                                            replace hv158_0 := Option.some.inj (hv158_0.symm.trans hx158_0)
                                                            injection hv158_0 with hva_ hvn_ hvc_
                                                            rw [hva_] at ge158_0
                                                            rw [hvc_] at ul158_0
                                                            have HL158_0 := Aside0.mk (show Kd.V (Kd.int .i64) 3 _ w.heap.size _ _ (rd_L1 x12_3 (ji40)) from Kd.V_mk ul158_0 ge158_0)
                                                            clear hva_ hvn_ hvc_ ge158_0 ul158_0
                                                            clear hcc158 hce158
                                                            have HR158_0 := Aside0.mk hi158_0
                                                            have HC158_0 := Aside0.mk hl158_0
                                                            clear hi158_0 hl158_0
                                                            replace p158 := eq_true p158
                                                            replace q158 := eq_true q158
                                                            go_wp2_with (first | ((with_reducible refine gate_builtin (b := .append) (xs := #[.tmp 127, .tmp 132]) rfl ?_); (try (refine gate_guard (by rfl) ?_; dsimp only)); at_builtin; refine Kd.N_append (Kd.slice 3 (Kd.int .i64)) (w0 := w) w.heap.size rfl (.tmp 127) (.tmp 132) 26 25 (.slice none 0 0) 24 rfl Try.underlying26 info25 rfl (by decide) (by omega) u20 x20_5 (rd_L1 x12_3 (ji40)) [.slice A158_0 (rd_L1 x12_3 (ji40)).length c158_0] (fun k_ => some k_ ≠ (.slice (some ad158) x12_3.length co52 : Value).ownBlock ∧ some k_ ≠ (u18 : Value).ownBlock) (fun k_ => ((fun k_ => some k_ ≠ (.slice (some ad158) x12_3.length co52 : Value).ownBlock ∧ some k_ ≠ (u18 : Value).ownBlock)) k_ ∧ some k_ ≠ (u20 : Value).ownBlock) rfl rfl ?aP (fun _ hk => hk) ?aF ?aO ?aB ?aS ?aL ?_; (case aP => exact (Kd.FK_slice_mk (Kd.V_reads' (Kd.V_mono (ok' := (fun k_ => ((fun k_ => some k_ ≠ (.slice (some ad158) x12_3.length co52 : Value).ownBlock ∧ some k_ ≠ (u18 : Value).ownBlock)) k_ ∧ some k_ ≠ (u20 : Value).ownBlock)) (HL158_0.out) (fun k_ hk => ⟨⟨hk.2, hk.1.1⟩, hk.1.2⟩))).2.1 (Kd.V_F (Kd.V_mono (ok' := (fun k_ => ((fun k_ => some k_ ≠ (.slice (some ad158) x12_3.length co52 : Value).ownBlock ∧ some k_ ≠ (u18 : Value).ownBlock)) k_ ∧ some k_ ≠ (u20 : Value).ownBlock)) (HL158_0.out) (fun k_ hk => ⟨⟨hk.2, hk.1.1⟩, hk.1.2⟩))))); (case aB => exact (by repeat (first | (with_reducible first | exact HB.out | apply below_alloc | apply pw_below_drewN | apply below_drew1) | exact HB.out))); (case aF => exact (fun k_ hk => ⟨Kd.fresh' (Kd.N_lt (by (with_reducible repeat (first | apply Kd.N_alloc | apply Kd.N_drewN | apply Kd.N_drew)); exact HO_12.out)) k_ hk, Kd.fresh' (Kd.N_lt (by (with_reducible repeat (first | apply Kd.N_alloc | apply Kd.N_drewN | apply Kd.N_drew)); exact HO_18.out)) k_ hk⟩)); (case aO => exact (by (with_reducible repeat (first | apply Kd.N_alloc | apply Kd.N_drewN | apply Kd.N_drew)); exact HO_20.out)); (case aS => exact (below_size (by repeat (first | (with_reducible first | exact HB.out | apply below_alloc | apply pw_below_drewN | apply below_drew1) | exact HB.out)))); (case aL => have := LMc43.out; omega); intro v160 w53 ho hb hg hat; rw [← Ny159.out] at ho; have n0_ := Aside0.mk (Kd.N_afterv (ok := (fun k_ => some k_ ≠ (u18 : Value).ownBlock)) (by (with_reducible repeat (first | apply Kd.N_alloc | apply Kd.N_drewN | apply Kd.N_drew)); exact HO_12.out) hg hat); have n1_ := Aside0.mk (Kd.N_afterv (ok := (fun k_ => some k_ ≠ (.slice (some ad158) x12_3.length co52 : Value).ownBlock)) (by (with_reducible repeat (first | apply Kd.N_alloc | apply Kd.N_drewN | apply Kd.N_drew)); exact HO_18.out) hg hat); have n2_ := Aside0.mk (Kd.V_afterv (ok := (fun k_ => some k_ ≠ (.slice (some ad158) x12_3.length co52 : Value).ownBlock ∧ some k_ ≠ (u18 : Value).ownBlock)) (by (with_reducible repeat (first | apply Kd.V_alloc | apply Kd.V_drewN | apply Kd.V_drew)); exact Kd.V_mono HL158_0.out (fun _ hk => ⟨⟨hk.2, hk.1.1⟩, hk.1.2⟩)) hg hat); have n3_ := Aside0.mk (hb); have n4_ := Aside0.mk (ho); clear HO_12; clear HO_18; clear HL158_0; clear HB; clear HO_20; have HO_12 := n0_; have HO_18 := n1_; have HL158_0 := n2_; have HB := n3_; have HO161 := n4_; clear n0_ n1_ n2_ n3_ n4_; clear ho hb hg hat; have p162 : 0 ≤ ((ji48) : Int) := of_decide_eq_true (by first | (with_reducible assumption) | assumption); have q162 : (ji48) < (x12_3.length : Int) := of_decide_eq_true (by first | (with_reducible assumption) | assumption); obtain ⟨ad162, A162_0, c162_0, e162, hx162_0, hl162_0, hi162_0⟩ := at_L1 (Kd.N_reads' HO_12.out).2.2 (ji48) p162 q162; obtain rfl : ad158 = ad162 := (by injection e162); obtain ⟨ce162, hce162, hMe162, hcc162⟩ := Kd.N_get HO_12.out [] (ji48) p162 (by first | exact q162 | exact of_decide_eq_true (by first | (with_reducible assumption) | assumption) | (have e_ := (Kd.N_reads' HO_12.out).1; omega)); obtain ⟨ua162_0, uc162_0, rfl, ul162_0, ge162_0⟩ := Kd.FK_slice_open hMe162; have hv162_0 := hcc162 0 _ rfl; rw [Nat.add_zero, show ((Kd.slice 3 (Kd.int .i64))).sz = 1 from rfl, Nat.mul_one] at hv162_0; replace hv162_0 := Option.some.inj (hv162_0.symm.trans hx162_0); injection hv162_0 with hva_ hvn_ hvc_; rw [hva_] at ge162_0; rw [hvc_] at ul162_0; have HL162_0 := Aside0.mk (show Kd.V (Kd.int .i64) 3 _ w.heap.size _ _ (rd_L1 x12_3 (ji48)) from Kd.V_mk ul162_0 ge162_0); clear hva_ hvn_ hvc_ ge162_0 ul162_0; clear hcc162 hce162; have HR162_0 := Aside0.mk hi162_0; have HC162_0 := Aside0.mk hl162_0; clear hi162_0 hl162_0; replace p162 := eq_true p162; replace q162 := eq_true q162) | ((with_reducible refine gate_builtin (b := .append) (xs := #[.tmp 142, .tmp 147]) rfl ?_); (try (refine gate_guard (by rfl) ?_; dsimp only)); at_builtin; refine Kd.N_append (Kd.slice 3 (Kd.int .i64)) (w0 := w) w.heap.size rfl (.tmp 142) (.tmp 147) 26 25 (.slice none 0 0) 24 rfl Try.underlying26 info25 rfl (by decide) (by omega) v160 y159 (rd_L1 x12_3 (ji48)) [.slice A162_0 (rd_L1 x12_3 (ji48)).length c162_0] (fun k_ => some k_ ≠ (.slice (some ad158) x12_3.length co52 : Value).ownBlock ∧ some k_ ≠ (u18 : Value).ownBlock) (fun k_ => ((fun k_ => some k_ ≠ (.slice (some ad158) x12_3.length co52 : Value).ownBlock ∧ some k_ ≠ (u18 : Value).ownBlock)) k_ ∧ some k_ ≠ (v160 : Value).ownBlock) rfl rfl ?aP (fun _ hk => hk) ?aF ?aO ?aB ?aS ?aL ?_; (case aP => exact (Kd.FK_slice_mk (Kd.V_reads' (Kd.V_mono (ok' := (fun k_ => ((fun k_ => some k_ ≠ (.slice (some ad158) x12_3.length co52 : Value).ownBlock ∧ some k_ ≠ (u18 : Value).ownBlock)) k_ ∧ some k_ ≠ (v160 : Value).ownBlock)) (HL162_0.out) (fun k_ hk => ⟨⟨hk.2, hk.1.1⟩, hk.1.2⟩))).2.1 (Kd.V_F (Kd.V_mono (ok' := (fun k_ => ((fun k_ => some k_ ≠ (.slice (some ad158) x12_3.length co52 : Value).ownBlock ∧ some k_ ≠ (u18 : Value).ownBlock)) k_ ∧ some k_ ≠ (v160 : Value).ownBlock)) (HL162_0.out) (fun k_ hk => ⟨⟨hk.2, hk.1.1⟩, hk.1.2⟩))))); (case aB => exact (by repeat (first | (with_reducible first | exact HB.out | apply below_alloc | apply pw_below_drewN | apply below_drew1) | exact HB.out))); (case aF => exact (fun k_ hk => ⟨Kd.fresh' (Kd.N_lt (by (with_reducible repeat (first | apply Kd.N_alloc | apply Kd.N_drewN | apply Kd.N_drew)); exact HO_12.out)) k_ hk, Kd.fresh' (Kd.N_lt (by (with_reducible repeat (first | apply Kd.N_alloc | apply Kd.N_drewN | apply Kd.N_drew)); exact HO_18.out)) k_ hk⟩)); (case aO => exact (by (with_reducible repeat (first | apply Kd.N_alloc | apply Kd.N_drewN | apply Kd.N_drew)); exact HO161.out)); (case aS => exact (below_size (by repeat (first | (with_reducible first | exact HB.out | apply below_alloc | apply pw_below_drewN | apply below_drew1) | exact HB.out)))); (case aL => have := LMc51.out; omega); intro v164 w54 ho hb hg hat; rw [← Ny163.out] at ho; have n0_ := Aside0.mk (Kd.N_afterv (ok := (fun k_ => some k_ ≠ (u18 : Value).ownBlock)) (by (with_reducible repeat (first | apply Kd.N_alloc | apply Kd.N_drewN | apply Kd.N_drew)); exact HO_12.out) hg hat); have n1_ := Aside0.mk (Kd.N_afterv (ok := (fun k_ => some k_ ≠ (.slice (some ad158) x12_3.length co52 : Value).ownBlock)) (by (with_reducible repeat (first | apply Kd.N_alloc | apply Kd.N_drewN | apply Kd.N_drew)); exact HO_18.out) hg hat); have n2_ := Aside0.mk (Kd.V_afterv (ok := (fun k_ => some k_ ≠ (.slice (some ad158) x12_3.length co52 : Value).ownBlock ∧ some k_ ≠ (u18 : Value).ownBlock)) (by (with_reducible repeat (first | apply Kd.V_alloc | apply Kd.V_drewN | apply Kd.V_drew)); exact HL158_0.out) hg hat); have n3_ := Aside0.mk (Kd.V_afterv (ok := (fun k_ => some k_ ≠ (.slice (some ad158) x12_3.length co52 : Value).ownBlock ∧ some k_ ≠ (u18 : Value).ownBlock)) (by (with_reducible repeat (first | apply Kd.V_alloc | apply Kd.V_drewN | apply Kd.V_drew)); exact Kd.V_mono HL162_0.out (fun _ hk => ⟨⟨hk.2, hk.1.1⟩, hk.1.2⟩)) hg hat); have n4_ := Aside0.mk (hb); have n5_ := Aside0.mk (ho); clear HO_12; clear HO_18; clear HL158_0; clear HL162_0; clear HB; clear HO161; have HO_12 := n0_; have HO_18 := n1_; have HL158_0 := n2_; have HL162_0 := n3_; have HB := n4_; have HO165 := n5_; clear n0_ n1_ n2_ n3_ n4_ n5_; clear ho hb hg hat))
                                                            repeat (go_quiet (first | ((with_reducible refine gate_builtin (b := .append) (xs := #[.tmp 127, .tmp 132]) rfl ?_); (try (refine gate_guard (by rfl) ?_; dsimp only)); at_builtin; refine Kd.N_append (Kd.slice 3 (Kd.int .i64)) (w0 := w) w.heap.size rfl (.tmp 127) (.tmp 132) 26 25 (.slice none 0 0) 24 rfl Try.underlying26 info25 rfl (by decide) (by omega) u20 x20_5 (rd_L1 x12_3 (ji40)) [.slice A158_0 (rd_L1 x12_3 (ji40)).length c158_0] (fun k_ => some k_ ≠ (.slice (some ad158) x12_3.length co52 : Value).ownBlock ∧ some k_ ≠ (u18 : Value).ownBlock) (fun k_ => ((fun k_ => some k_ ≠ (.slice (some ad158) x12_3.length co52 : Value).ownBlock ∧ some k_ ≠ (u18 : Value).ownBlock)) k_ ∧ some k_ ≠ (u20 : Value).ownBlock) rfl rfl ?aP (fun _ hk => hk) ?aF ?aO ?aB ?aS ?aL ?_; (case aP => exact (Kd.FK_slice_mk (Kd.V_reads' (Kd.V_mono (ok' := (fun k_ => ((fun k_ => some k_ ≠ (.slice (some ad158) x12_3.length co52 : Value).ownBlock ∧ some k_ ≠ (u18 : Value).ownBlock)) k_ ∧ some k_ ≠ (u20 : Value).ownBlock)) (HL158_0.out) (fun k_ hk => ⟨⟨hk.2, hk.1.1⟩, hk.1.2⟩))).2.1 (Kd.V_F (Kd.V_mono (ok' := (fun k_ => ((fun k_ => some k_ ≠ (.slice (some ad158) x12_3.length co52 : Value).ownBlock ∧ some k_ ≠ (u18 : Value).ownBlock)) k_ ∧ some k_ ≠ (u20 : Value).ownBlock)) (HL158_0.out) (fun k_ hk => ⟨⟨hk.2, hk.1.1⟩, hk.1.2⟩))))); (case aB => exact (by repeat (first | (with_reducible first | exact HB.out | apply below_alloc | apply pw_below_drewN | apply below_drew1) | exact HB.out))); (case aF => exact (fun k_ hk => ⟨Kd.fresh' (Kd.N_lt (by (with_reducible repeat (first | apply Kd.N_alloc | apply Kd.N_drewN | apply Kd.N_drew)); exact HO_12.out)) k_ hk, Kd.fresh' (Kd.N_lt (by (with_reducible repeat (first | apply Kd.N_alloc | apply Kd.N_drewN | apply Kd.N_drew)); exact HO_18.out)) k_ hk⟩)); (case aO => exact (by (with_reducible repeat (first | apply Kd.N_alloc | apply Kd.N_drewN | apply Kd.N_drew)); exact HO_20.out)); (case aS => exact (below_size (by repeat (first | (with_reducible first | exact HB.out | apply below_alloc | apply pw_below_drewN | apply below_drew1) | exact HB.out)))); (case aL => have := LMc43.out; omega); intro v160 w53 ho hb hg hat; rw [← Ny159.out] at ho; have n0_ := Aside0.mk (Kd.N_afterv (ok := (fun k_ => some k_ ≠ (u18 : Value).ownBlock)) (by (with_reducible repeat (first | apply Kd.N_alloc | apply Kd.N_drewN | apply Kd.N_drew)); exact HO_12.out) hg hat); have n1_ := Aside0.mk (Kd.N_afterv (ok := (fun k_ => some k_ ≠ (.slice (some ad158) x12_3.length co52 : Value).ownBlock)) (by (with_reducible repeat (first | apply Kd.N_alloc | apply Kd.N_drewN | apply Kd.N_drew)); exact HO_18.out) hg hat); have n2_ := Aside0.mk (Kd.V_afterv (ok := (fun k_ => some k_ ≠ (.slice (some ad158) x12_3.length co52 : Value).ownBlock ∧ some k_ ≠ (u18 : Value).ownBlock)) (by (with_reducible repeat (first | apply Kd.V_alloc | apply Kd.V_drewN | apply Kd.V_drew)); exact Kd.V_mono HL158_0.out (fun _ hk => ⟨⟨hk.2, hk.1.1⟩, hk.1.2⟩)) hg hat); have n3_ := Aside0.mk (hb); have n4_ := Aside0.mk (ho); clear HO_12; clear HO_18; clear HL158_0; clear HB; clear HO_20; have HO_12 := n0_; have HO_18 := n1_; have HL158_0 := n2_; have HB := n3_; have HO161 := n4_; clear n0_ n1_ n2_ n3_ n4_; clear ho hb hg hat; have p162 : 0 ≤ ((ji48) : Int) := of_decide_eq_true (by first | (with_reducible assumption) | assumption); have q162 : (ji48) < (x12_3.length : Int) := of_decide_eq_true (by first | (with_reducible assumption) | assumption); obtain ⟨ad162, A162_0, c162_0, e162, hx162_0, hl162_0, hi162_0⟩ := at_L1 (Kd.N_reads' HO_12.out).2.2 (ji48) p162 q162; obtain rfl : ad158 = ad162 := (by injection e162); obtain ⟨ce162, hce162, hMe162, hcc162⟩ := Kd.N_get HO_12.out [] (ji48) p162 (by first | exact q162 | exact of_decide_eq_true (by first | (with_reducible assumption) | assumption) | (have e_ := (Kd.N_reads' HO_12.out).1; omega)); obtain ⟨ua162_0, uc162_0, rfl, ul162_0, ge162_0⟩ := Kd.FK_slice_open hMe162; have hv162_0 := hcc162 0 _ rfl; rw [Nat.add_zero, show ((Kd.slice 3 (Kd.int .i64))).sz = 1 from rfl, Nat.mul_one] at hv162_0; replace hv162_0 := Option.some.inj (hv162_0.symm.trans hx162_0); injection hv162_0 with hva_ hvn_ hvc_; rw [hva_] at ge162_0; rw [hvc_] at ul162_0; have HL162_0 := Aside0.mk (show Kd.V (Kd.int .i64) 3 _ w.heap.size _ _ (rd_L1 x12_3 (ji48)) from Kd.V_mk ul162_0 ge162_0); clear hva_ hvn_ hvc_ ge162_0 ul162_0; clear hcc162 hce162; have HR162_0 := Aside0.mk hi162_0; have HC162_0 := Aside0.mk hl162_0; clear hi162_0 hl162_0; replace p162 := eq_true p162; replace q162 := eq_true q162) | ((with_reducible refine gate_builtin (b := .append) (xs := #[.tmp 142, .tmp 147]) rfl ?_); (try (refine gate_guard (by rfl) ?_; dsimp only)); at_builtin; refine Kd.N_append (Kd.slice 3 (Kd.int .i64)) (w0 := w) w.heap.size rfl (.tmp 142) (.tmp 147) 26 25 (.slice none 0 0) 24 rfl Try.underlying26 info25 rfl (by decide) (by omega) v160 y159 (rd_L1 x12_3 (ji48)) [.slice A162_0 (rd_L1 x12_3 (ji48)).length c162_0] (fun k_ => some k_ ≠ (.slice (some ad158) x12_3.length co52 : Value).ownBlock ∧ some k_ ≠ (u18 : Value).ownBlock) (fun k_ => ((fun k_ => some k_ ≠ (.slice (some ad158) x12_3.length co52 : Value).ownBlock ∧ some k_ ≠ (u18 : Value).ownBlock)) k_ ∧ some k_ ≠ (v160 : Value).ownBlock) rfl rfl ?aP (fun _ hk => hk) ?aF ?aO ?aB ?aS ?aL ?_; (case aP => exact (Kd.FK_slice_mk (Kd.V_reads' (Kd.V_mono (ok' := (fun k_ => ((fun k_ => some k_ ≠ (.slice (some ad158) x12_3.length co52 : Value).ownBlock ∧ some k_ ≠ (u18 : Value).ownBlock)) k_ ∧ some k_ ≠ (v160 : Value).ownBlock)) (HL162_0.out) (fun k_ hk => ⟨⟨hk.2, hk.1.1⟩, hk.1.2⟩))).2.1 (Kd.V_F (Kd.V_mono (ok' := (fun k_ => ((fun k_ => some k_ ≠ (.slice (some ad158) x12_3.length co52 : Value).ownBlock ∧ some k_ ≠ (u18 : Value).ownBlock)) k_ ∧ some k_ ≠ (v160 : Value).ownBlock)) (HL162_0.out) (fun k_ hk => ⟨⟨hk.2, hk.1.1⟩, hk.1.2⟩))))); (case aB => exact (by repeat (first | (with_reducible first | exact HB.out | apply below_alloc | apply pw_below_drewN | apply below_drew1) | exact HB.out))); (case aF => exact (fun k_ hk => ⟨Kd.fresh' (Kd.N_lt (by (with_reducible repeat (first | apply Kd.N_alloc | apply Kd.N_drewN | apply Kd.N_drew)); exact HO_12.out)) k_ hk, Kd.fresh' (Kd.N_lt (by (with_reducible repeat (first | apply Kd.N_alloc | apply Kd.N_drewN | apply Kd.N_drew)); exact HO_18.out)) k_ hk⟩)); (case aO => exact (by (with_reducible repeat (first | apply Kd.N_alloc | apply Kd.N_drewN | apply Kd.N_drew)); exact HO161.out)); (case aS => exact (below_size (by repeat (first | (with_reducible first | exact HB.out | apply below_alloc | apply pw_below_drewN | apply below_drew1) | exact HB.out)))); (case aL => have := LMc51.out; omega); intro v164 w54 ho hb hg hat; rw [← Ny163.out] at ho; have n0_ := Aside0.mk (Kd.N_afterv (ok := (fun k_ => some k_ ≠ (u18 : Value).ownBlock)) (by (with_reducible repeat (first | apply Kd.N_alloc | apply Kd.N_drewN | apply Kd.N_drew)); exact HO_12.out) hg hat); have n1_ := Aside0.mk (Kd.N_afterv (ok := (fun k_ => some k_ ≠ (.slice (some ad158) x12_3.length co52 : Value).ownBlock)) (by (with_reducible repeat (first | apply Kd.N_alloc | apply Kd.N_drewN | apply Kd.N_drew)); exact HO_18.out) hg hat); have n2_ := Aside0.mk (Kd.V_afterv (ok := (fun k_ => some k_ ≠ (.slice (some ad158) x12_3.length co52 : Value).ownBlock ∧ some k_ ≠ (u18 : Value).ownBlock)) (by (with_reducible repeat (first | apply Kd.V_alloc | apply Kd.V_drewN | apply Kd.V_drew)); exact HL158_0.out) hg hat); have n3_ := Aside0.mk (Kd.V_afterv (ok := (fun k_ => some k_ ≠ (.slice (some ad158) x12_3.length co52 : Value).ownBlock ∧ some k_ ≠ (u18 : Value).ownBlock)) (by (with_reducible repeat (first | apply Kd.V_alloc | apply Kd.V_drewN | apply Kd.V_drew)); exact Kd.V_mono HL162_0.out (fun _ hk => ⟨⟨hk.2, hk.1.1⟩, hk.1.2⟩)) hg hat); have n4_ := Aside0.mk (hb); have n5_ := Aside0.mk (ho); clear HO_12; clear HO_18; clear HL158_0; clear HL162_0; clear HB; clear HO161; have HO_12 := n0_; have HO_18 := n1_; have HL158_0 := n2_; have HL162_0 := n3_; have HB := n4_; have HO165 := n5_; clear n0_ n1_ n2_ n3_ n4_ n5_; clear ho hb hg hat)); try go_wp2_with (first | ((with_reducible refine gate_builtin (b := .append) (xs := #[.tmp 127, .tmp 132]) rfl ?_); (try (refine gate_guard (by rfl) ?_; dsimp only)); at_builtin; refine Kd.N_append (Kd.slice 3 (Kd.int .i64)) (w0 := w) w.heap.size rfl (.tmp 127) (.tmp 132) 26 25 (.slice none 0 0) 24 rfl Try.underlying26 info25 rfl (by decide) (by omega) u20 x20_5 (rd_L1 x12_3 (ji40)) [.slice A158_0 (rd_L1 x12_3 (ji40)).length c158_0] (fun k_ => some k_ ≠ (.slice (some ad158) x12_3.length co52 : Value).ownBlock ∧ some k_ ≠ (u18 : Value).ownBlock) (fun k_ => ((fun k_ => some k_ ≠ (.slice (some ad158) x12_3.length co52 : Value).ownBlock ∧ some k_ ≠ (u18 : Value).ownBlock)) k_ ∧ some k_ ≠ (u20 : Value).ownBlock) rfl rfl ?aP (fun _ hk => hk) ?aF ?aO ?aB ?aS ?aL ?_; (case aP => exact (Kd.FK_slice_mk (Kd.V_reads' (Kd.V_mono (ok' := (fun k_ => ((fun k_ => some k_ ≠ (.slice (some ad158) x12_3.length co52 : Value).ownBlock ∧ some k_ ≠ (u18 : Value).ownBlock)) k_ ∧ some k_ ≠ (u20 : Value).ownBlock)) (HL158_0.out) (fun k_ hk => ⟨⟨hk.2, hk.1.1⟩, hk.1.2⟩))).2.1 (Kd.V_F (Kd.V_mono (ok' := (fun k_ => ((fun k_ => some k_ ≠ (.slice (some ad158) x12_3.length co52 : Value).ownBlock ∧ some k_ ≠ (u18 : Value).ownBlock)) k_ ∧ some k_ ≠ (u20 : Value).ownBlock)) (HL158_0.out) (fun k_ hk => ⟨⟨hk.2, hk.1.1⟩, hk.1.2⟩))))); (case aB => exact (by repeat (first | (with_reducible first | exact HB.out | apply below_alloc | apply pw_below_drewN | apply below_drew1) | exact HB.out))); (case aF => exact (fun k_ hk => ⟨Kd.fresh' (Kd.N_lt (by (with_reducible repeat (first | apply Kd.N_alloc | apply Kd.N_drewN | apply Kd.N_drew)); exact HO_12.out)) k_ hk, Kd.fresh' (Kd.N_lt (by (with_reducible repeat (first | apply Kd.N_alloc | apply Kd.N_drewN | apply Kd.N_drew)); exact HO_18.out)) k_ hk⟩)); (case aO => exact (by (with_reducible repeat (first | apply Kd.N_alloc | apply Kd.N_drewN | apply Kd.N_drew)); exact HO_20.out)); (case aS => exact (below_size (by repeat (first | (with_reducible first | exact HB.out | apply below_alloc | apply pw_below_drewN | apply below_drew1) | exact HB.out)))); (case aL => have := LMc43.out; omega); intro v160 w53 ho hb hg hat; rw [← Ny159.out] at ho; have n0_ := Aside0.mk (Kd.N_afterv (ok := (fun k_ => some k_ ≠ (u18 : Value).ownBlock)) (by (with_reducible repeat (first | apply Kd.N_alloc | apply Kd.N_drewN | apply Kd.N_drew)); exact HO_12.out) hg hat); have n1_ := Aside0.mk (Kd.N_afterv (ok := (fun k_ => some k_ ≠ (.slice (some ad158) x12_3.length co52 : Value).ownBlock)) (by (with_reducible repeat (first | apply Kd.N_alloc | apply Kd.N_drewN | apply Kd.N_drew)); exact HO_18.out) hg hat); have n2_ := Aside0.mk (Kd.V_afterv (ok := (fun k_ => some k_ ≠ (.slice (some ad158) x12_3.length co52 : Value).ownBlock ∧ some k_ ≠ (u18 : Value).ownBlock)) (by (with_reducible repeat (first | apply Kd.V_alloc | apply Kd.V_drewN | apply Kd.V_drew)); exact Kd.V_mono HL158_0.out (fun _ hk => ⟨⟨hk.2, hk.1.1⟩, hk.1.2⟩)) hg hat); have n3_ := Aside0.mk (hb); have n4_ := Aside0.mk (ho); clear HO_12; clear HO_18; clear HL158_0; clear HB; clear HO_20; have HO_12 := n0_; have HO_18 := n1_; have HL158_0 := n2_; have HB := n3_; have HO161 := n4_; clear n0_ n1_ n2_ n3_ n4_; clear ho hb hg hat; have p162 : 0 ≤ ((ji48) : Int) := of_decide_eq_true (by first | (with_reducible assumption) | assumption); have q162 : (ji48) < (x12_3.length : Int) := of_decide_eq_true (by first | (with_reducible assumption) | assumption); obtain ⟨ad162, A162_0, c162_0, e162, hx162_0, hl162_0, hi162_0⟩ := at_L1 (Kd.N_reads' HO_12.out).2.2 (ji48) p162 q162; obtain rfl : ad158 = ad162 := (by injection e162); obtain ⟨ce162, hce162, hMe162, hcc162⟩ := Kd.N_get HO_12.out [] (ji48) p162 (by first | exact q162 | exact of_decide_eq_true (by first | (with_reducible assumption) | assumption) | (have e_ := (Kd.N_reads' HO_12.out).1; omega)); obtain ⟨ua162_0, uc162_0, rfl, ul162_0, ge162_0⟩ := Kd.FK_slice_open hMe162; have hv162_0 := hcc162 0 _ rfl; rw [Nat.add_zero, show ((Kd.slice 3 (Kd.int .i64))).sz = 1 from rfl, Nat.mul_one] at hv162_0; replace hv162_0 := Option.some.inj (hv162_0.symm.trans hx162_0); injection hv162_0 with hva_ hvn_ hvc_; rw [hva_] at ge162_0; rw [hvc_] at ul162_0; have HL162_0 := Aside0.mk (show Kd.V (Kd.int .i64) 3 _ w.heap.size _ _ (rd_L1 x12_3 (ji48)) from Kd.V_mk ul162_0 ge162_0); clear hva_ hvn_ hvc_ ge162_0 ul162_0; clear hcc162 hce162; have HR162_0 := Aside0.mk hi162_0; have HC162_0 := Aside0.mk hl162_0; clear hi162_0 hl162_0; replace p162 := eq_true p162; replace q162 := eq_true q162) | ((with_reducible refine gate_builtin (b := .append) (xs := #[.tmp 142, .tmp 147]) rfl ?_); (try (refine gate_guard (by rfl) ?_; dsimp only)); at_builtin; refine Kd.N_append (Kd.slice 3 (Kd.int .i64)) (w0 := w) w.heap.size rfl (.tmp 142) (.tmp 147) 26 25 (.slice none 0 0) 24 rfl Try.underlying26 info25 rfl (by decide) (by omega) v160 y159 (rd_L1 x12_3 (ji48)) [.slice A162_0 (rd_L1 x12_3 (ji48)).length c162_0] (fun k_ => some k_ ≠ (.slice (some ad158) x12_3.length co52 : Value).ownBlock ∧ some k_ ≠ (u18 : Value).ownBlock) (fun k_ => ((fun k_ => some k_ ≠ (.slice (some ad158) x12_3.length co52 : Value).ownBlock ∧ some k_ ≠ (u18 : Value).ownBlock)) k_ ∧ some k_ ≠ (v160 : Value).ownBlock) rfl rfl ?aP (fun _ hk => hk) ?aF ?aO ?aB ?aS ?aL ?_; (case aP => exact (Kd.FK_slice_mk (Kd.V_reads' (Kd.V_mono (ok' := (fun k_ => ((fun k_ => some k_ ≠ (.slice (some ad158) x12_3.length co52 : Value).ownBlock ∧ some k_ ≠ (u18 : Value).ownBlock)) k_ ∧ some k_ ≠ (v160 : Value).ownBlock)) (HL162_0.out) (fun k_ hk => ⟨⟨hk.2, hk.1.1⟩, hk.1.2⟩))).2.1 (Kd.V_F (Kd.V_mono (ok' := (fun k_ => ((fun k_ => some k_ ≠ (.slice (some ad158) x12_3.length co52 : Value).ownBlock ∧ some k_ ≠ (u18 : Value).ownBlock)) k_ ∧ some k_ ≠ (v160 : Value).ownBlock)) (HL162_0.out) (fun k_ hk => ⟨⟨hk.2, hk.1.1⟩, hk.1.2⟩))))); (case aB => exact (by repeat (first | (with_reducible first | exact HB.out | apply below_alloc | apply pw_below_drewN | apply below_drew1) | exact HB.out))); (case aF => exact (fun k_ hk => ⟨Kd.fresh' (Kd.N_lt (by (with_reducible repeat (first | apply Kd.N_alloc | apply Kd.N_drewN | apply Kd.N_drew)); exact HO_12.out)) k_ hk, Kd.fresh' (Kd.N_lt (by (with_reducible repeat (first | apply Kd.N_alloc | apply Kd.N_drewN | apply Kd.N_drew)); exact HO_18.out)) k_ hk⟩)); (case aO => exact (by (with_reducible repeat (first | apply Kd.N_alloc | apply Kd.N_drewN | apply Kd.N_drew)); exact HO161.out)); (case aS => exact (below_size (by repeat (first | (with_reducible first | exact HB.out | apply below_alloc | apply pw_below_drewN | apply below_drew1) | exact HB.out)))); (case aL => have := LMc51.out; omega); intro v164 w54 ho hb hg hat; rw [← Ny163.out] at ho; have n0_ := Aside0.mk (Kd.N_afterv (ok := (fun k_ => some k_ ≠ (u18 : Value).ownBlock)) (by (with_reducible repeat (first | apply Kd.N_alloc | apply Kd.N_drewN | apply Kd.N_drew)); exact HO_12.out) hg hat); have n1_ := Aside0.mk (Kd.N_afterv (ok := (fun k_ => some k_ ≠ (.slice (some ad158) x12_3.length co52 : Value).ownBlock)) (by (with_reducible repeat (first | apply Kd.N_alloc | apply Kd.N_drewN | apply Kd.N_drew)); exact HO_18.out) hg hat); have n2_ := Aside0.mk (Kd.V_afterv (ok := (fun k_ => some k_ ≠ (.slice (some ad158) x12_3.length co52 : Value).ownBlock ∧ some k_ ≠ (u18 : Value).ownBlock)) (by (with_reducible repeat (first | apply Kd.V_alloc | apply Kd.V_drewN | apply Kd.V_drew)); exact HL158_0.out) hg hat); have n3_ := Aside0.mk (Kd.V_afterv (ok := (fun k_ => some k_ ≠ (.slice (some ad158) x12_3.length co52 : Value).ownBlock ∧ some k_ ≠ (u18 : Value).ownBlock)) (by (with_reducible repeat (first | apply Kd.V_alloc | apply Kd.V_drewN | apply Kd.V_drew)); exact Kd.V_mono HL162_0.out (fun _ hk => ⟨⟨hk.2, hk.1.1⟩, hk.1.2⟩)) hg hat); have n4_ := Aside0.mk (hb); have n5_ := Aside0.mk (ho); clear HO_12; clear HO_18; clear HL158_0; clear HL162_0; clear HB; clear HO161; have HO_12 := n0_; have HO_18 := n1_; have HL158_0 := n2_; have HL162_0 := n3_; have HB := n4_; have HO165 := n5_; clear n0_ n1_ n2_ n3_ n4_ n5_; clear ho hb hg hat)))
                                                            go_roundg kj36
                                                            case measure => have := HJ4.out; have := HK2.out; have := HK3.out; have := HK4.out; have := HK5.out; have := HJ36.out; omega
                                                            case rel => exact ⟨(y163), (wrap64 (x21_5 + 1)), (by first | rfl | (simp; done) | (simp [*]; done)), H', ⟨by have := HJ4.out; have := HK2.out; have := HK3.out; have := HK4.out; have := HK5.out; have := HJ36.out; omega⟩, ⟨by (with_reducible repeat (first | apply Kd.N_alloc | apply Kd.N_drewN | apply Kd.N_drew)); exact HO_12.out⟩, ⟨by (with_reducible repeat (first | apply Kd.N_alloc | apply Kd.N_drewN | apply Kd.N_drew)); exact HO_18.out⟩, ⟨by (with_reducible repeat (first | apply Kd.N_alloc | apply Kd.N_drewN | apply Kd.N_drew)); exact HO165.out⟩, ⟨by repeat (first | (with_reducible first | exact HB.out | apply below_alloc | apply pw_below_drewN | apply below_drew1) | exact HB.out)⟩⟩
                                                          · rw [if_neg c51] at H
                                                            exact absurd H (by simp)
                                                        · rw [if_neg c50] at H
                                                          exact absurd H (by simp)
                                                      · rw [if_neg c49] at H
                                                        exact absurd H (by simp)
                                                  · rw [if_neg c44] at H
                                                    have c44b0 : ((ji40) == x19_4) = false := beq_eq_false_iff_ne.mpr c44
                                                    have c44b1 : ((ji40) != x19_4) = true := bne_iff_ne.mpr c44
                                                    have H' := Aside0.mk H
                                                    clear H
                                                    obtain ⟨Ao55, co55, eo55⟩ := Kd.N_slice HO_12.out
                                                    subst eo55
                                                    have p158 : 0 ≤ ((ji40) : Int) := of_decide_eq_true (by first | (with_reducible assumption) | assumption)
                                                    have q158 : (ji40) < (x12_3.length : Int) := of_decide_eq_true (by first | (with_reducible assumption) | assumption)
                                                    obtain ⟨ad158, A158_0, c158_0, e158, hx158_0, hl158_0, hi158_0⟩ := at_L1 (Kd.N_reads' HO_12.out).2.2 (ji40) p158 q158
                                                    cases e158
                                                    obtain ⟨ce158, hce158, hMe158, hcc158⟩ := Kd.N_get HO_12.out [] (ji40) p158 (by first | exact q158 | exact of_decide_eq_true (by first | (with_reducible assumption) | assumption) | (have e_ := (Kd.N_reads' HO_12.out).1; omega))
                                                    obtain ⟨ua158_0, uc158_0, rfl, ul158_0, ge158_0⟩ := Kd.FK_slice_open hMe158
                                                    have hv158_0 := hcc158 0 _ rfl
                                                    rw [Nat.add_zero, show ((Kd.slice 3 (Kd.int .i64))).sz = 1 from rfl, Nat.mul_one] at hv158_0
                                                    replace hv158_0 := Option.some.inj (hv158_0.symm.trans hx158_0)
                                                    injection hv158_0 with hva_ hvn_ hvc_
                                                    rw [hva_] at ge158_0
                                                    rw [hvc_] at ul158_0
                                                    have HL158_0 := Aside0.mk (show Kd.V (Kd.int .i64) 3 _ w.heap.size _ _ (rd_L1 x12_3 (ji40)) from Kd.V_mk ul158_0 ge158_0)
                                                    clear hva_ hvn_ hvc_ ge158_0 ul158_0
                                                    clear hcc158 hce158
                                                    have HR158_0 := Aside0.mk hi158_0
                                                    have HC158_0 := Aside0.mk hl158_0
                                                    clear hi158_0 hl158_0
                                                    replace p158 := eq_true p158
                                                    replace q158 := eq_true q158
                                                    go_wp2_with (first | ((with_reducible refine gate_builtin (b := .append) (xs := #[.tmp 127, .tmp 132]) rfl ?_); (try (refine gate_guard (by rfl) ?_; dsimp only)); at_builtin; refine Kd.N_append (Kd.slice 3 (Kd.int .i64)) (w0 := w) w.heap.size rfl (.tmp 127) (.tmp 132) 26 25 (.slice none 0 0) 24 rfl Try.underlying26 info25 rfl (by decide) (by omega) u20 x20_5 (rd_L1 x12_3 (ji40)) [.slice A158_0 (rd_L1 x12_3 (ji40)).length c158_0] (fun k_ => some k_ ≠ (.slice (some ad158) x12_3.length co55 : Value).ownBlock ∧ some k_ ≠ (u18 : Value).ownBlock) (fun k_ => ((fun k_ => some k_ ≠ (.slice (some ad158) x12_3.length co55 : Value).ownBlock ∧ some k_ ≠ (u18 : Value).ownBlock)) k_ ∧ some k_ ≠ (u20 : Value).ownBlock) rfl rfl ?aP (fun _ hk => hk) ?aF ?aO ?aB ?aS ?aL ?_; (case aP => exact (Kd.FK_slice_mk (Kd.V_reads' (Kd.V_mono (ok' := (fun k_ => ((fun k_ => some k_ ≠ (.slice (some ad158) x12_3.length co55 : Value).ownBlock ∧ some k_ ≠ (u18 : Value).ownBlock)) k_ ∧ some k_ ≠ (u20 : Value).ownBlock)) (HL158_0.out) (fun k_ hk => ⟨⟨hk.2, hk.1.1⟩, hk.1.2⟩))).2.1 (Kd.V_F (Kd.V_mono (ok' := (fun k_ => ((fun k_ => some k_ ≠ (.slice (some ad158) x12_3.length co55 : Value).ownBlock ∧ some k_ ≠ (u18 : Value).ownBlock)) k_ ∧ some k_ ≠ (u20 : Value).ownBlock)) (HL158_0.out) (fun k_ hk => ⟨⟨hk.2, hk.1.1⟩, hk.1.2⟩))))); (case aB => exact (by repeat (first | (with_reducible first | exact HB.out | apply below_alloc | apply pw_below_drewN | apply below_drew1) | exact HB.out))); (case aF => exact (fun k_ hk => ⟨Kd.fresh' (Kd.N_lt (by (with_reducible repeat (first | apply Kd.N_alloc | apply Kd.N_drewN | apply Kd.N_drew)); exact HO_12.out)) k_ hk, Kd.fresh' (Kd.N_lt (by (with_reducible repeat (first | apply Kd.N_alloc | apply Kd.N_drewN | apply Kd.N_drew)); exact HO_18.out)) k_ hk⟩)); (case aO => exact (by (with_reducible repeat (first | apply Kd.N_alloc | apply Kd.N_drewN | apply Kd.N_drew)); exact HO_20.out)); (case aS => exact (below_size (by repeat (first | (with_reducible first | exact HB.out | apply below_alloc | apply pw_below_drewN | apply below_drew1) | exact HB.out)))); (case aL => have := LMc43.out; omega); intro v160 w56 ho hb hg hat; rw [← Ny159.out] at ho; have n0_ := Aside0.mk (Kd.N_afterv (ok := (fun k_ => some k_ ≠ (u18 : Value).ownBlock)) (by (with_reducible repeat (first | apply Kd.N_alloc | apply Kd.N_drewN | apply Kd.N_drew)); exact HO_12.out) hg hat); have n1_ := Aside0.mk (Kd.N_afterv (ok := (fun k_ => some k_ ≠ (.slice (some ad158) x12_3.length co55 : Value).ownBlock)) (by (with_reducible repeat (first | apply Kd.N_alloc | apply Kd.N_drewN | apply Kd.N_drew)); exact HO_18.out) hg hat); have n2_ := Aside0.mk (Kd.V_afterv (ok := (fun k_ => some k_ ≠ (.slice (some ad158) x12_3.length co55 : Value).ownBlock ∧ some k_ ≠ (u18 : Value).ownBlock)) (by (with_reducible repeat (first | apply Kd.V_alloc | apply Kd.V_drewN | apply Kd.V_drew)); exact Kd.V_mono HL158_0.out (fun _ hk => ⟨⟨hk.2, hk.1.1⟩, hk.1.2⟩)) hg hat); have n3_ := Aside0.mk (hb); have n4_ := Aside0.mk (ho); clear HO_12; clear HO_18; clear HL158_0; clear HB; clear HO_20; have HO_12 := n0_; have HO_18 := n1_; have HL158_0 := n2_; have HB := n3_; have HO161 := n4_; clear n0_ n1_ n2_ n3_ n4_; clear ho hb hg hat))
                                                    repeat (go_quiet (first | ((with_reducible refine gate_builtin (b := .append) (xs := #[.tmp 127, .tmp 132]) rfl ?_); (try (refine gate_guard (by rfl) ?_; dsimp only)); at_builtin; refine Kd.N_append (Kd.slice 3 (Kd.int .i64)) (w0 := w) w.heap.size rfl (.tmp 127) (.tmp 132) 26 25 (.slice none 0 0) 24 rfl Try.underlying26 info25 rfl (by decide) (by omega) u20 x20_5 (rd_L1 x12_3 (ji40)) [.slice A158_0 (rd_L1 x12_3 (ji40)).length c158_0] (fun k_ => some k_ ≠ (.slice (some ad158) x12_3.length co55 : Value).ownBlock ∧ some k_ ≠ (u18 : Value).ownBlock) (fun k_ => ((fun k_ => some k_ ≠ (.slice (some ad158) x12_3.length co55 : Value).ownBlock ∧ some k_ ≠ (u18 : Value).ownBlock)) k_ ∧ some k_ ≠ (u20 : Value).ownBlock) rfl rfl ?aP (fun _ hk => hk) ?aF ?aO ?aB ?aS ?aL ?_; (case aP => exact (Kd.FK_slice_mk (Kd.V_reads' (Kd.V_mono (ok' := (fun k_ => ((fun k_ => some k_ ≠ (.slice (some ad158) x12_3.length co55 : Value).ownBlock ∧ some k_ ≠ (u18 : Value).ownBlock)) k_ ∧ some k_ ≠ (u20 : Value).ownBlock)) (HL158_0.out) (fun k_ hk => ⟨⟨hk.2, hk.1.1⟩, hk.1.2⟩))).2.1 (Kd.V_F (Kd.V_mono (ok' := (fun k_ => ((fun k_ => some k_ ≠ (.slice (some ad158) x12_3.length co55 : Value).ownBlock ∧ some k_ ≠ (u18 : Value).ownBlock)) k_ ∧ some k_ ≠ (u20 : Value).ownBlock)) (HL158_0.out) (fun k_ hk => ⟨⟨hk.2, hk.1.1⟩, hk.1.2⟩))))); (case aB => exact (by repeat (first | (with_reducible first | exact HB.out | apply below_alloc | apply pw_below_drewN | apply below_drew1) | exact HB.out))); (case aF => exact (fun k_ hk => ⟨Kd.fresh' (Kd.N_lt (by (with_reducible repeat (first | apply Kd.N_alloc | apply Kd.N_drewN | apply Kd.N_drew)); exact HO_12.out)) k_ hk, Kd.fresh' (Kd.N_lt (by (with_reducible repeat (first | apply Kd.N_alloc | apply Kd.N_drewN | apply Kd.N_drew)); exact HO_18.out)) k_ hk⟩)); (case aO => exact (by (with_reducible repeat (first | apply Kd.N_alloc | apply Kd.N_drewN | apply Kd.N_drew)); exact HO_20.out)); (case aS => exact (below_size (by repeat (first | (with_reducible first | exact HB.out | apply below_alloc | apply pw_below_drewN | apply below_drew1) | exact HB.out)))); (case aL => have := LMc43.out; omega); intro v160 w56 ho hb hg hat; rw [← Ny159.out] at ho; have n0_ := Aside0.mk (Kd.N_afterv (ok := (fun k_ => some k_ ≠ (u18 : Value).ownBlock)) (by (with_reducible repeat (first | apply Kd.N_alloc | apply Kd.N_drewN | apply Kd.N_drew)); exact HO_12.out) hg hat); have n1_ := Aside0.mk (Kd.N_afterv (ok := (fun k_ => some k_ ≠ (.slice (some ad158) x12_3.length co55 : Value).ownBlock)) (by (with_reducible repeat (first | apply Kd.N_alloc | apply Kd.N_drewN | apply Kd.N_drew)); exact HO_18.out) hg hat); have n2_ := Aside0.mk (Kd.V_afterv (ok := (fun k_ => some k_ ≠ (.slice (some ad158) x12_3.length co55 : Value).ownBlock ∧ some k_ ≠ (u18 : Value).ownBlock)) (by (with_reducible repeat (first | apply Kd.V_alloc | apply Kd.V_drewN | apply Kd.V_drew)); exact Kd.V_mono HL158_0.out (fun _ hk => ⟨⟨hk.2, hk.1.1⟩, hk.1.2⟩)) hg hat); have n3_ := Aside0.mk (hb); have n4_ := Aside0.mk (ho); clear HO_12; clear HO_18; clear HL158_0; clear HB; clear HO_20; have HO_12 := n0_; have HO_18 := n1_; have HL158_0 := n2_; have HB := n3_; have HO161 := n4_; clear n0_ n1_ n2_ n3_ n4_; clear ho hb hg hat)); try go_wp2_with (first | ((with_reducible refine gate_builtin (b := .append) (xs := #[.tmp 127, .tmp 132]) rfl ?_); (try (refine gate_guard (by rfl) ?_; dsimp only)); at_builtin; refine Kd.N_append (Kd.slice 3 (Kd.int .i64)) (w0 := w) w.heap.size rfl (.tmp 127) (.tmp 132) 26 25 (.slice none 0 0) 24 rfl Try.underlying26 info25 rfl (by decide) (by omega) u20 x20_5 (rd_L1 x12_3 (ji40)) [.slice A158_0 (rd_L1 x12_3 (ji40)).length c158_0] (fun k_ => some k_ ≠ (.slice (some ad158) x12_3.length co55 : Value).ownBlock ∧ some k_ ≠ (u18 : Value).ownBlock) (fun k_ => ((fun k_ => some k_ ≠ (.slice (some ad158) x12_3.length co55 : Value).ownBlock ∧ some k_ ≠ (u18 : Value).ownBlock)) k_ ∧ some k_ ≠ (u20 : Value).ownBlock) rfl rfl ?aP (fun _ hk => hk) ?aF ?aO ?aB ?aS ?aL ?_; (case aP => exact (Kd.FK_slice_mk (Kd.V_reads' (Kd.V_mono (ok' := (fun k_ => ((fun k_ => some k_ ≠ (.slice (some ad158) x12_3.length co55 : Value).ownBlock ∧ some k_ ≠ (u18 : Value).ownBlock)) k_ ∧ some k_ ≠ (u20 : Value).ownBlock)) (HL158_0.out) (fun k_ hk => ⟨⟨hk.2, hk.1.1⟩, hk.1.2⟩))).2.1 (Kd.V_F (Kd.V_mono (ok' := (fun k_ => ((fun k_ => some k_ ≠ (.slice (some ad158) x12_3.length co55 : Value).ownBlock ∧ some k_ ≠ (u18 : Value).ownBlock)) k_ ∧ some k_ ≠ (u20 : Value).ownBlock)) (HL158_0.out) (fun k_ hk => ⟨⟨hk.2, hk.1.1⟩, hk.1.2⟩))))); (case aB => exact (by repeat (first | (with_reducible first | exact HB.out | apply below_alloc | apply pw_below_drewN | apply below_drew1) | exact HB.out))); (case aF => exact (fun k_ hk => ⟨Kd.fresh' (Kd.N_lt (by (with_reducible repeat (first | apply Kd.N_alloc | apply Kd.N_drewN | apply Kd.N_drew)); exact HO_12.out)) k_ hk, Kd.fresh' (Kd.N_lt (by (with_reducible repeat (first | apply Kd.N_alloc | apply Kd.N_drewN | apply Kd.N_drew)); exact HO_18.out)) k_ hk⟩)); (case aO => exact (by (with_reducible repeat (first | apply Kd.N_alloc | apply Kd.N_drewN | apply Kd.N_drew)); exact HO_20.out)); (case aS => exact (below_size (by repeat (first | (with_reducible first | exact HB.out | apply below_alloc | apply pw_below_drewN | apply below_drew1) | exact HB.out)))); (case aL => have := LMc43.out; omega); intro v160 w56 ho hb hg hat; rw [← Ny159.out] at ho; have n0_ := Aside0.mk (Kd.N_afterv (ok := (fun k_ => some k_ ≠ (u18 : Value).ownBlock)) (by (with_reducible repeat (first | apply Kd.N_alloc | apply Kd.N_drewN | apply Kd.N_drew)); exact HO_12.out) hg hat); have n1_ := Aside0.mk (Kd.N_afterv (ok := (fun k_ => some k_ ≠ (.slice (some ad158) x12_3.length co55 : Value).ownBlock)) (by (with_reducible repeat (first | apply Kd.N_alloc | apply Kd.N_drewN | apply Kd.N_drew)); exact HO_18.out) hg hat); have n2_ := Aside0.mk (Kd.V_afterv (ok := (fun k_ => some k_ ≠ (.slice (some ad158) x12_3.length co55 : Value).ownBlock ∧ some k_ ≠ (u18 : Value).ownBlock)) (by (with_reducible repeat (first | apply Kd.V_alloc | apply Kd.V_drewN | apply Kd.V_drew)); exact Kd.V_mono HL158_0.out (fun _ hk => ⟨⟨hk.2, hk.1.1⟩, hk.1.2⟩)) hg hat); have n3_ := Aside0.mk (hb); have n4_ := Aside0.mk (ho); clear HO_12; clear HO_18; clear HL158_0; clear HB; clear HO_20; have HO_12 := n0_; have HO_18 := n1_; have HL158_0 := n2_; have HB := n3_; have HO161 := n4_; clear n0_ n1_ n2_ n3_ n4_; clear ho hb hg hat)))
                                                    go_roundg kj36
                                                    case measure => have := HJ4.out; have := HK2.out; have := HK3.out; have := HK4.out; have := HK5.out; have := HJ36.out; omega
                                                    case rel => exact ⟨(y159), (wrap64 (x21_5 + 1)), (by first | rfl | (simp; done) | (simp [*]; done)), H', ⟨by have := HJ4.out; have := HK2.out; have := HK3.out; have := HK4.out; have := HK5.out; have := HJ36.out; omega⟩, ⟨by (with_reducible repeat (first | apply Kd.N_alloc | apply Kd.N_drewN | apply Kd.N_drew)); exact HO_12.out⟩, ⟨by (with_reducible repeat (first | apply Kd.N_alloc | apply Kd.N_drewN | apply Kd.N_drew)); exact HO_18.out⟩, ⟨by (with_reducible repeat (first | apply Kd.N_alloc | apply Kd.N_drewN | apply Kd.N_drew)); exact HO161.out⟩, ⟨by repeat (first | (with_reducible first | exact HB.out | apply below_alloc | apply pw_below_drewN | apply below_drew1) | exact HB.out)⟩⟩
                                                · rw [if_neg c43] at H
                                                  exact absurd H (by simp)
                                              · rw [if_neg c42] at H
                                                exact absurd H (by simp)
                                            · rw [if_neg c41] at H
                                              exact absurd H (by simp)
                                          · replace c39 := Bool.eq_false_iff.mpr c39
                                            subst c39
                                            have H1 : (if (Int.tmod (wrap64 ((rd l1 x21_5) / 16)) (l0.length : Int)) = x19_4 then (if (Int.tmod (wrap64 (Go.bits .and .u8 (rd l1 x21_5) 15)) (l0.length : Int)) = (Int.tmod (wrap64 (a3)) (l0.length : Int)) then (drumlinelaw15_AgesGone.l4 kj36 l1 (wrap64 (1 + (Int.tmod (wrap64 (a2)) 40))) (l0.length : Int) (Int.tmod (wrap64 (a3)) (l0.length : Int)) x12_3 x17_3 x18_4 x19_4 x20_5 (wrap64 (x21_5 + 1))) else (if 0 ≤ (Int.tmod (wrap64 (Go.bits .and .u8 (rd l1 x21_5) 15)) (l0.length : Int)) then (if (Int.tmod (wrap64 (Go.bits .and .u8 (rd l1 x21_5) 15)) (l0.length : Int)) < (x12_3.length : Int) then (if x20_5.length < 5864062014805 then (drumlinelaw15_AgesGone.l4 kj36 l1 (wrap64 (1 + (Int.tmod (wrap64 (a2)) 40))) (l0.length : Int) (Int.tmod (wrap64 (a3)) (l0.length : Int)) x12_3 x17_3 x18_4 x19_4 (x20_5 ++ [rd_L1 x12_3 (Int.tmod (wrap64 (Go.bits .and .u8 (rd l1 x21_5) 15)) (l0.length : Int))]) (wrap64 (x21_5 + 1))) else (none)) else (none)) else (none))) else (drumlinelaw15_AgesGone.l4 kj36 l1 (wrap64 (1 + (Int.tmod (wrap64 (a2)) 40))) (l0.length : Int) (Int.tmod (wrap64 (a3)) (l0.length : Int)) x12_3 x17_3 x18_4 x19_4 x20_5 (wrap64 (x21_5 + 1)))) = some r := by rw [if_neg (show ¬ (false = true) by decide)] at H; exact H
                                            clear H
                                            have H := H1
                                            clear H1
                                            by_cases c57 : (Int.tmod (wrap64 ((rd l1 x21_5) / 16)) (l0.length : Int)) = x19_4
                                            · rw [if_pos c57] at H
                                              have c57b0 : ((Int.tmod (wrap64 ((rd l1 x21_5) / 16)) (l0.length : Int)) == x19_4) = true := beq_iff_eq.mpr c57
                                              have c57b1 : ((Int.tmod (wrap64 ((rd l1 x21_5) / 16)) (l0.length : Int)) != x19_4) = false := bne_eq_false_iff_eq.mpr c57
                                              clear c57
                                              by_cases c58 : (Int.tmod (wrap64 (Go.bits .and .u8 (rd l1 x21_5) 15)) (l0.length : Int)) = (Int.tmod (wrap64 (a3)) (l0.length : Int))
                                              · rw [if_pos c58] at H
                                                have c58b0 : ((Int.tmod (wrap64 (Go.bits .and .u8 (rd l1 x21_5) 15)) (l0.length : Int)) == (Int.tmod (wrap64 (a3)) (l0.length : Int))) = true := beq_iff_eq.mpr c58
                                                have c58b1 : ((Int.tmod (wrap64 (Go.bits .and .u8 (rd l1 x21_5) 15)) (l0.length : Int)) != (Int.tmod (wrap64 (a3)) (l0.length : Int))) = false := bne_eq_false_iff_eq.mpr c58
                                                clear c58
                                                have H' := Aside0.mk H
                                                clear H
                                                go_wp2
                                                repeat (go_quiet (fail); try go_wp2)
                                                go_roundg kj36
                                                case measure => have := HJ4.out; have := HK2.out; have := HK3.out; have := HK4.out; have := HK5.out; have := HJ36.out; omega
                                                case rel => exact ⟨(x20_5), (wrap64 (x21_5 + 1)), (by first | rfl | (simp; done) | (simp [*]; done)), H', ⟨by have := HJ4.out; have := HK2.out; have := HK3.out; have := HK4.out; have := HK5.out; have := HJ36.out; omega⟩, ⟨by (with_reducible repeat (first | apply Kd.N_alloc | apply Kd.N_drewN | apply Kd.N_drew)); exact HO_12.out⟩, ⟨by (with_reducible repeat (first | apply Kd.N_alloc | apply Kd.N_drewN | apply Kd.N_drew)); exact HO_18.out⟩, ⟨by (with_reducible repeat (first | apply Kd.N_alloc | apply Kd.N_drewN | apply Kd.N_drew)); exact HO_20.out⟩, ⟨by repeat (first | (with_reducible first | exact HB.out | apply below_alloc | apply pw_below_drewN | apply below_drew1) | exact HB.out)⟩⟩
                                              · rw [if_neg c58] at H
                                                have c58b0 : ((Int.tmod (wrap64 (Go.bits .and .u8 (rd l1 x21_5) 15)) (l0.length : Int)) == (Int.tmod (wrap64 (a3)) (l0.length : Int))) = false := beq_eq_false_iff_ne.mpr c58
                                                have c58b1 : ((Int.tmod (wrap64 (Go.bits .and .u8 (rd l1 x21_5) 15)) (l0.length : Int)) != (Int.tmod (wrap64 (a3)) (l0.length : Int))) = true := bne_iff_ne.mpr c58
                                                obtain ⟨ji59, hji59⟩ : ∃ j_ : Int, (Int.tmod (wrap64 (Go.bits .and .u8 (rd l1 x21_5) 15)) (l0.length : Int)) = j_ := ⟨_, rfl⟩
                                                replace H : (if 0 ≤ (ji59) then (if (ji59) < (x12_3.length : Int) then (if x20_5.length < 5864062014805 then (drumlinelaw15_AgesGone.l4 kj36 l1 (wrap64 (1 + (Int.tmod (wrap64 (a2)) 40))) (l0.length : Int) (Int.tmod (wrap64 (a3)) (l0.length : Int)) x12_3 x17_3 x18_4 x19_4 (x20_5 ++ [rd_L1 x12_3 (ji59)]) (wrap64 (x21_5 + 1))) else (none)) else (none)) else (none)) = some r := by first | (rw [hji59] at H; exact H) | (simp only [hji59] at H ⊢; exact H)
                                                (try rw [hji59] at c58b0)
                                                (try rw [hji59] at c58b1)
                                                by_cases c60 : 0 ≤ (ji59)
                                                · rw [if_pos c60] at H
                                                  have c60b0 : decide (0 ≤ (ji59)) = true := decide_eq_true c60
                                                  clear c60
                                                  by_cases c61 : (ji59) < (x12_3.length : Int)
                                                  · rw [if_pos c61] at H
                                                    have c61b0 : decide ((ji59) < (x12_3.length : Int)) = true := decide_eq_true c61
                                                    clear c61
                                                    by_cases c62 : x20_5.length < 5864062014805
                                                    · rw [if_pos c62] at H
                                                      have LMc62 := Aside0.mk c62
                                                      clear c62
                                                      obtain ⟨y167, hy167⟩ : ∃ y_ : List (List Int), y_ = (x20_5 ++ [rd_L1 x12_3 (ji59)]) := ⟨_, rfl⟩
                                                      replace H : (drumlinelaw15_AgesGone.l4 kj36 l1 (wrap64 (1 + (Int.tmod (wrap64 (a2)) 40))) (l0.length : Int) (Int.tmod (wrap64 (a3)) (l0.length : Int)) x12_3 x17_3 x18_4 x19_4 y167 (wrap64 (x21_5 + 1))) = some r := by first | (rw [hy167]; with_reducible exact H) | (have H2_ := (Option.bind_some _ _).symm.trans H; rw [hy167]; with_reducible exact H2_) | (have H2_ := (Option.bind_some _ _).symm.trans H; with_reducible exact H2_) | with_reducible exact H | (rw [hy167]; exact H) | exact H
                                                      have Ny167 := Aside0.mk hy167
                                                      clear hy167
                                                      have H' := Aside0.mk H
                                                      clear H
                                                      obtain ⟨Ao63, co63, eo63⟩ := Kd.N_slice HO_12.out
                                                      subst eo63
                                                      have p166 : 0 ≤ ((ji59) : Int) := of_decide_eq_true (by first | (with_reducible assumption) | assumption)
                                                      have q166 : (ji59) < (x12_3.length : Int) := of_decide_eq_true (by first | (with_reducible assumption) | assumption)
                                                      obtain ⟨ad166, A166_0, c166_0, e166, hx166_0, hl166_0, hi166_0⟩ := at_L1 (Kd.N_reads' HO_12.out).2.2 (ji59) p166 q166
                                                      cases e166
                                                      obtain ⟨ce166, hce166, hMe166, hcc166⟩ := Kd.N_get HO_12.out [] (ji59) p166 (by first | exact q166 | exact of_decide_eq_true (by first | (with_reducible assumption) | assumption) | (have e_ := (Kd.N_reads' HO_12.out).1; omega))
                                                      obtain ⟨ua166_0, uc166_0, rfl, ul166_0, ge166_0⟩ := Kd.FK_slice_open hMe166
                                                      have hv166_0 := hcc166 0 _ rfl
                                                      rw [Nat.add_zero, show ((Kd.slice 3 (Kd.int .i64))).sz = 1 from rfl, Nat.mul_one] at hv166_0
                                                      replace hv166_0 := Option.some.inj (hv166_0.symm.trans hx166_0)
                                                      injection hv166_0 with hva_ hvn_ hvc_
                                                      rw [hva_] at ge166_0
                                                      rw [hvc_] at ul166_0
                                                      have HL166_0 := Aside0.mk (show Kd.V (Kd.int .i64) 3 _ w.heap.size _ _ (rd_L1 x12_3 (ji59)) from Kd.V_mk ul166_0 ge166_0)
                                                      clear hva_ hvn_ hvc_ ge166_0 ul166_0
                                                      clear hcc166 hce166
                                                      have HR166_0 := Aside0.mk hi166_0
                                                      have HC166_0 := Aside0.mk hl166_0
                                                      clear hi166_0 hl166_0
                                                      replace p166 := eq_true p166
                                                      replace q166 := eq_true q166
                                                      go_wp2_with (first | ((with_reducible refine gate_builtin (b := .append) (xs := #[.tmp 142, .tmp 147]) rfl ?_); (try (refine gate_guard (by rfl) ?_; dsimp only)); at_builtin; refine Kd.N_append (Kd.slice 3 (Kd.int .i64)) (w0 := w) w.heap.size rfl (.tmp 142) (.tmp 147) 26 25 (.slice none 0 0) 24 rfl Try.underlying26 info25 rfl (by decide) (by omega) u20 x20_5 (rd_L1 x12_3 (ji59)) [.slice A166_0 (rd_L1 x12_3 (ji59)).length c166_0] (fun k_ => some k_ ≠ (.slice (some ad166) x12_3.length co63 : Value).ownBlock ∧ some k_ ≠ (u18 : Value).ownBlock) (fun k_ => ((fun k_ => some k_ ≠ (.slice (some ad166) x12_3.length co63 : Value).ownBlock ∧ some k_ ≠ (u18 : Value).ownBlock)) k_ ∧ some k_ ≠ (u20 : Value).ownBlock) rfl rfl ?aP (fun _ hk => hk) ?aF ?aO ?aB ?aS ?aL ?_; (case aP => exact (Kd.FK_slice_mk (Kd.V_reads' (Kd.V_mono (ok' := (fun k_ => ((fun k_ => some k_ ≠ (.slice (some ad166) x12_3.length co63 : Value).ownBlock ∧ some k_ ≠ (u18 : Value).ownBlock)) k_ ∧ some k_ ≠ (u20 : Value).ownBlock)) (HL166_0.out) (fun k_ hk => ⟨⟨hk.2, hk.1.1⟩, hk.1.2⟩))).2.1 (Kd.V_F (Kd.V_mono (ok' := (fun k_ => ((fun k_ => some k_ ≠ (.slice (some ad166) x12_3.length co63 : Value).ownBlock ∧ some k_ ≠ (u18 : Value).ownBlock)) k_ ∧ some k_ ≠ (u20 : Value).ownBlock)) (HL166_0.out) (fun k_ hk => ⟨⟨hk.2, hk.1.1⟩, hk.1.2⟩))))); (case aB => exact (by repeat (first | (with_reducible first | exact HB.out | apply below_alloc | apply pw_below_drewN | apply below_drew1) | exact HB.out))); (case aF => exact (fun k_ hk => ⟨Kd.fresh' (Kd.N_lt (by (with_reducible repeat (first | apply Kd.N_alloc | apply Kd.N_drewN | apply Kd.N_drew)); exact HO_12.out)) k_ hk, Kd.fresh' (Kd.N_lt (by (with_reducible repeat (first | apply Kd.N_alloc | apply Kd.N_drewN | apply Kd.N_drew)); exact HO_18.out)) k_ hk⟩)); (case aO => exact (by (with_reducible repeat (first | apply Kd.N_alloc | apply Kd.N_drewN | apply Kd.N_drew)); exact HO_20.out)); (case aS => exact (below_size (by repeat (first | (with_reducible first | exact HB.out | apply below_alloc | apply pw_below_drewN | apply below_drew1) | exact HB.out)))); (case aL => have := LMc62.out; omega); intro v168 w64 ho hb hg hat; rw [← Ny167.out] at ho; have n0_ := Aside0.mk (Kd.N_afterv (ok := (fun k_ => some k_ ≠ (u18 : Value).ownBlock)) (by (with_reducible repeat (first | apply Kd.N_alloc | apply Kd.N_drewN | apply Kd.N_drew)); exact HO_12.out) hg hat); have n1_ := Aside0.mk (Kd.N_afterv (ok := (fun k_ => some k_ ≠ (.slice (some ad166) x12_3.length co63 : Value).ownBlock)) (by (with_reducible repeat (first | apply Kd.N_alloc | apply Kd.N_drewN | apply Kd.N_drew)); exact HO_18.out) hg hat); have n2_ := Aside0.mk (Kd.V_afterv (ok := (fun k_ => some k_ ≠ (.slice (some ad166) x12_3.length co63 : Value).ownBlock ∧ some k_ ≠ (u18 : Value).ownBlock)) (by (with_reducible repeat (first | apply Kd.V_alloc | apply Kd.V_drewN | apply Kd.V_drew)); exact Kd.V_mono HL166_0.out (fun _ hk => ⟨⟨hk.2, hk.1.1⟩, hk.1.2⟩)) hg hat); have n3_ := Aside0.mk (hb); have n4_ := Aside0.mk (ho); clear HO_12; clear HO_18; clear HL166_0; clear HB; clear HO_20; have HO_12 := n0_; have HO_18 := n1_; have HL166_0 := n2_; have HB := n3_; have HO169 := n4_; clear n0_ n1_ n2_ n3_ n4_; clear ho hb hg hat))
                                                      repeat (go_quiet (first | ((with_reducible refine gate_builtin (b := .append) (xs := #[.tmp 142, .tmp 147]) rfl ?_); (try (refine gate_guard (by rfl) ?_; dsimp only)); at_builtin; refine Kd.N_append (Kd.slice 3 (Kd.int .i64)) (w0 := w) w.heap.size rfl (.tmp 142) (.tmp 147) 26 25 (.slice none 0 0) 24 rfl Try.underlying26 info25 rfl (by decide) (by omega) u20 x20_5 (rd_L1 x12_3 (ji59)) [.slice A166_0 (rd_L1 x12_3 (ji59)).length c166_0] (fun k_ => some k_ ≠ (.slice (some ad166) x12_3.length co63 : Value).ownBlock ∧ some k_ ≠ (u18 : Value).ownBlock) (fun k_ => ((fun k_ => some k_ ≠ (.slice (some ad166) x12_3.length co63 : Value).ownBlock ∧ some k_ ≠ (u18 : Value).ownBlock)) k_ ∧ some k_ ≠ (u20 : Value).ownBlock) rfl rfl ?aP (fun _ hk => hk) ?aF ?aO ?aB ?aS ?aL ?_; (case aP => exact (Kd.FK_slice_mk (Kd.V_reads' (Kd.V_mono (ok' := (fun k_ => ((fun k_ => some k_ ≠ (.slice (some ad166) x12_3.length co63 : Value).ownBlock ∧ some k_ ≠ (u18 : Value).ownBlock)) k_ ∧ some k_ ≠ (u20 : Value).ownBlock)) (HL166_0.out) (fun k_ hk => ⟨⟨hk.2, hk.1.1⟩, hk.1.2⟩))).2.1 (Kd.V_F (Kd.V_mono (ok' := (fun k_ => ((fun k_ => some k_ ≠ (.slice (some ad166) x12_3.length co63 : Value).ownBlock ∧ some k_ ≠ (u18 : Value).ownBlock)) k_ ∧ some k_ ≠ (u20 : Value).ownBlock)) (HL166_0.out) (fun k_ hk => ⟨⟨hk.2, hk.1.1⟩, hk.1.2⟩))))); (case aB => exact (by repeat (first | (with_reducible first | exact HB.out | apply below_alloc | apply pw_below_drewN | apply below_drew1) | exact HB.out))); (case aF => exact (fun k_ hk => ⟨Kd.fresh' (Kd.N_lt (by (with_reducible repeat (first | apply Kd.N_alloc | apply Kd.N_drewN | apply Kd.N_drew)); exact HO_12.out)) k_ hk, Kd.fresh' (Kd.N_lt (by (with_reducible repeat (first | apply Kd.N_alloc | apply Kd.N_drewN | apply Kd.N_drew)); exact HO_18.out)) k_ hk⟩)); (case aO => exact (by (with_reducible repeat (first | apply Kd.N_alloc | apply Kd.N_drewN | apply Kd.N_drew)); exact HO_20.out)); (case aS => exact (below_size (by repeat (first | (with_reducible first | exact HB.out | apply below_alloc | apply pw_below_drewN | apply below_drew1) | exact HB.out)))); (case aL => have := LMc62.out; omega); intro v168 w64 ho hb hg hat; rw [← Ny167.out] at ho; have n0_ := Aside0.mk (Kd.N_afterv (ok := (fun k_ => some k_ ≠ (u18 : Value).ownBlock)) (by (with_reducible repeat (first | apply Kd.N_alloc | apply Kd.N_drewN | apply Kd.N_drew)); exact HO_12.out) hg hat); have n1_ := Aside0.mk (Kd.N_afterv (ok := (fun k_ => some k_ ≠ (.slice (some ad166) x12_3.length co63 : Value).ownBlock)) (by (with_reducible repeat (first | apply Kd.N_alloc | apply Kd.N_drewN | apply Kd.N_drew)); exact HO_18.out) hg hat); have n2_ := Aside0.mk (Kd.V_afterv (ok := (fun k_ => some k_ ≠ (.slice (some ad166) x12_3.length co63 : Value).ownBlock ∧ some k_ ≠ (u18 : Value).ownBlock)) (by (with_reducible repeat (first | apply Kd.V_alloc | apply Kd.V_drewN | apply Kd.V_drew)); exact Kd.V_mono HL166_0.out (fun _ hk => ⟨⟨hk.2, hk.1.1⟩, hk.1.2⟩)) hg hat); have n3_ := Aside0.mk (hb); have n4_ := Aside0.mk (ho); clear HO_12; clear HO_18; clear HL166_0; clear HB; clear HO_20; have HO_12 := n0_; have HO_18 := n1_; have HL166_0 := n2_; have HB := n3_; have HO169 := n4_; clear n0_ n1_ n2_ n3_ n4_; clear ho hb hg hat)); try go_wp2_with (first | ((with_reducible refine gate_builtin (b := .append) (xs := #[.tmp 142, .tmp 147]) rfl ?_); (try (refine gate_guard (by rfl) ?_; dsimp only)); at_builtin; refine Kd.N_append (Kd.slice 3 (Kd.int .i64)) (w0 := w) w.heap.size rfl (.tmp 142) (.tmp 147) 26 25 (.slice none 0 0) 24 rfl Try.underlying26 info25 rfl (by decide) (by omega) u20 x20_5 (rd_L1 x12_3 (ji59)) [.slice A166_0 (rd_L1 x12_3 (ji59)).length c166_0] (fun k_ => some k_ ≠ (.slice (some ad166) x12_3.length co63 : Value).ownBlock ∧ some k_ ≠ (u18 : Value).ownBlock) (fun k_ => ((fun k_ => some k_ ≠ (.slice (some ad166) x12_3.length co63 : Value).ownBlock ∧ some k_ ≠ (u18 : Value).ownBlock)) k_ ∧ some k_ ≠ (u20 : Value).ownBlock) rfl rfl ?aP (fun _ hk => hk) ?aF ?aO ?aB ?aS ?aL ?_; (case aP => exact (Kd.FK_slice_mk (Kd.V_reads' (Kd.V_mono (ok' := (fun k_ => ((fun k_ => some k_ ≠ (.slice (some ad166) x12_3.length co63 : Value).ownBlock ∧ some k_ ≠ (u18 : Value).ownBlock)) k_ ∧ some k_ ≠ (u20 : Value).ownBlock)) (HL166_0.out) (fun k_ hk => ⟨⟨hk.2, hk.1.1⟩, hk.1.2⟩))).2.1 (Kd.V_F (Kd.V_mono (ok' := (fun k_ => ((fun k_ => some k_ ≠ (.slice (some ad166) x12_3.length co63 : Value).ownBlock ∧ some k_ ≠ (u18 : Value).ownBlock)) k_ ∧ some k_ ≠ (u20 : Value).ownBlock)) (HL166_0.out) (fun k_ hk => ⟨⟨hk.2, hk.1.1⟩, hk.1.2⟩))))); (case aB => exact (by repeat (first | (with_reducible first | exact HB.out | apply below_alloc | apply pw_below_drewN | apply below_drew1) | exact HB.out))); (case aF => exact (fun k_ hk => ⟨Kd.fresh' (Kd.N_lt (by (with_reducible repeat (first | apply Kd.N_alloc | apply Kd.N_drewN | apply Kd.N_drew)); exact HO_12.out)) k_ hk, Kd.fresh' (Kd.N_lt (by (with_reducible repeat (first | apply Kd.N_alloc | apply Kd.N_drewN | apply Kd.N_drew)); exact HO_18.out)) k_ hk⟩)); (case aO => exact (by (with_reducible repeat (first | apply Kd.N_alloc | apply Kd.N_drewN | apply Kd.N_drew)); exact HO_20.out)); (case aS => exact (below_size (by repeat (first | (with_reducible first | exact HB.out | apply below_alloc | apply pw_below_drewN | apply below_drew1) | exact HB.out)))); (case aL => have := LMc62.out; omega); intro v168 w64 ho hb hg hat; rw [← Ny167.out] at ho; have n0_ := Aside0.mk (Kd.N_afterv (ok := (fun k_ => some k_ ≠ (u18 : Value).ownBlock)) (by (with_reducible repeat (first | apply Kd.N_alloc | apply Kd.N_drewN | apply Kd.N_drew)); exact HO_12.out) hg hat); have n1_ := Aside0.mk (Kd.N_afterv (ok := (fun k_ => some k_ ≠ (.slice (some ad166) x12_3.length co63 : Value).ownBlock)) (by (with_reducible repeat (first | apply Kd.N_alloc | apply Kd.N_drewN | apply Kd.N_drew)); exact HO_18.out) hg hat); have n2_ := Aside0.mk (Kd.V_afterv (ok := (fun k_ => some k_ ≠ (.slice (some ad166) x12_3.length co63 : Value).ownBlock ∧ some k_ ≠ (u18 : Value).ownBlock)) (by (with_reducible repeat (first | apply Kd.V_alloc | apply Kd.V_drewN | apply Kd.V_drew)); exact Kd.V_mono HL166_0.out (fun _ hk => ⟨⟨hk.2, hk.1.1⟩, hk.1.2⟩)) hg hat); have n3_ := Aside0.mk (hb); have n4_ := Aside0.mk (ho); clear HO_12; clear HO_18; clear HL166_0; clear HB; clear HO_20; have HO_12 := n0_; have HO_18 := n1_; have HL166_0 := n2_; have HB := n3_; have HO169 := n4_; clear n0_ n1_ n2_ n3_ n4_; clear ho hb hg hat)))
                                                      go_roundg kj36
                                                      case measure => have := HJ4.out; have := HK2.out; have := HK3.out; have := HK4.out; have := HK5.out; have := HJ36.out; omega
                                                      case rel => exact ⟨(y167), (wrap64 (x21_5 + 1)), (by first | rfl | (simp; done) | (simp [*]; done)), H', ⟨by have := HJ4.out; have := HK2.out; have := HK3.out; have := HK4.out; have := HK5.out; have := HJ36.out; omega⟩, ⟨by (with_reducible repeat (first | apply Kd.N_alloc | apply Kd.N_drewN | apply Kd.N_drew)); exact HO_12.out⟩, ⟨by (with_reducible repeat (first | apply Kd.N_alloc | apply Kd.N_drewN | apply Kd.N_drew)); exact HO_18.out⟩, ⟨by (with_reducible repeat (first | apply Kd.N_alloc | apply Kd.N_drewN | apply Kd.N_drew)); exact HO169.out⟩, ⟨by repeat (first | (with_reducible first | exact HB.out | apply below_alloc | apply pw_below_drewN | apply below_drew1) | exact HB.out)⟩⟩
                                                    · rw [if_neg c62] at H
                                                      exact absurd H (by simp)
                                                  · rw [if_neg c61] at H
                                                    exact absurd H (by simp)
                                                · rw [if_neg c60] at H
                                                  exact absurd H (by simp)
                                            · rw [if_neg c57] at H
                                              have c57b0 : ((Int.tmod (wrap64 ((rd l1 x21_5) / 16)) (l0.length : Int)) == x19_4) = false := beq_eq_false_iff_ne.mpr c57
                                              have c57b1 : ((Int.tmod (wrap64 ((rd l1 x21_5) / 16)) (l0.length : Int)) != x19_4) = true := bne_iff_ne.mpr c57
                                              have H' := Aside0.mk H
                                              clear H
                                              go_wp2
                                              repeat (go_quiet (fail); try go_wp2)
                                              go_roundg kj36
                                              case measure => have := HJ4.out; have := HK2.out; have := HK3.out; have := HK4.out; have := HK5.out; have := HJ36.out; omega
                                              case rel => exact ⟨(x20_5), (wrap64 (x21_5 + 1)), (by first | rfl | (simp; done) | (simp [*]; done)), H', ⟨by have := HJ4.out; have := HK2.out; have := HK3.out; have := HK4.out; have := HK5.out; have := HJ36.out; omega⟩, ⟨by (with_reducible repeat (first | apply Kd.N_alloc | apply Kd.N_drewN | apply Kd.N_drew)); exact HO_12.out⟩, ⟨by (with_reducible repeat (first | apply Kd.N_alloc | apply Kd.N_drewN | apply Kd.N_drew)); exact HO_18.out⟩, ⟨by (with_reducible repeat (first | apply Kd.N_alloc | apply Kd.N_drewN | apply Kd.N_drew)); exact HO_20.out⟩, ⟨by repeat (first | (with_reducible first | exact HB.out | apply below_alloc | apply pw_below_drewN | apply below_drew1) | exact HB.out)⟩⟩
                                  · rw [if_neg c35] at H
                                    exact absurd H (by simp)
                                · rw [if_neg c34] at H
                                  have c34b0 : decide (x21_5 < (l1.length : Int)) = false := decide_eq_false c34
                                  clear c34
                                  by_cases c65 : 0 ≤ x19_4
                                  · rw [if_pos c65] at H
                                    have c65b0 : decide (0 ≤ x19_4) = true := decide_eq_true c65
                                    clear c65
                                    by_cases c66 : x19_4 < (x12_3.length : Int)
                                    · rw [if_pos c66] at H
                                      have c66b0 : decide (x19_4 < (x12_3.length : Int)) = true := decide_eq_true c66
                                      clear c66
                                      replace H := Option.bind_eq_some_iff.mp H
                                      obtain ⟨t150, A670, H⟩ := H
                                      replace H : (if x18_4.length < 5864062014805 then (drumlinelaw15_AgesGone.l3 k5 l1 (wrap64 (1 + (Int.tmod (wrap64 (a2)) 40))) (l0.length : Int) (Int.tmod (wrap64 (a3)) (l0.length : Int)) x12_3 x17_3 (x18_4 ++ [t150]) (wrap64 (x19_4 + 1))) else (none)) = some r := H
                                      have A67 := Aside0.mk A670
                                      clear A670
                                      by_cases c68 : x18_4.length < 5864062014805
                                      · rw [if_pos c68] at H
                                        have LMc68 := Aside0.mk c68
                                        clear c68
                                        obtain ⟨y153, hy153⟩ : ∃ y_ : List (List Int), y_ = (x18_4 ++ [t150]) := ⟨_, rfl⟩
                                        replace H : (drumlinelaw15_AgesGone.l3 k5 l1 (wrap64 (1 + (Int.tmod (wrap64 (a2)) 40))) (l0.length : Int) (Int.tmod (wrap64 (a3)) (l0.length : Int)) x12_3 x17_3 y153 (wrap64 (x19_4 + 1))) = some r := by first | (rw [hy153]; with_reducible exact H) | (have H2_ := (Option.bind_some _ _).symm.trans H; rw [hy153]; with_reducible exact H2_) | (have H2_ := (Option.bind_some _ _).symm.trans H; with_reducible exact H2_) | with_reducible exact H | (rw [hy153]; exact H) | exact H
                                        have Ny153 := Aside0.mk hy153
                                        clear hy153
                                        have H' := Aside0.mk H
                                        clear H
                                        obtain ⟨Ao69, co69, eo69⟩ := Kd.N_slice HO_12.out
                                        subst eo69
                                        have p149 : 0 ≤ (x19_4 : Int) := of_decide_eq_true (by first | (with_reducible assumption) | assumption)
                                        have q149 : x19_4 < (x12_3.length : Int) := of_decide_eq_true (by first | (with_reducible assumption) | assumption)
                                        obtain ⟨ad149, A149_0, c149_0, e149, hx149_0, hl149_0, hi149_0⟩ := at_L1 (Kd.N_reads' HO_12.out).2.2 x19_4 p149 q149
                                        cases e149
                                        obtain ⟨ce149, hce149, hMe149, hcc149⟩ := Kd.N_get HO_12.out [] x19_4 p149 (by first | exact q149 | exact of_decide_eq_true (by first | (with_reducible assumption) | assumption) | (have e_ := (Kd.N_reads' HO_12.out).1; omega))
                                        obtain ⟨ua149_0, uc149_0, rfl, ul149_0, ge149_0⟩ := Kd.FK_slice_open hMe149
                                        have hv149_0 := hcc149 0 _ rfl
                                        rw [Nat.add_zero, show ((Kd.slice 3 (Kd.int .i64))).sz = 1 from rfl, Nat.mul_one] at hv149_0
                                        replace hv149_0 := Option.some.inj (hv149_0.symm.trans hx149_0)
                                        injection hv149_0 with hva_ hvn_ hvc_
                                        rw [hva_] at ge149_0
                                        rw [hvc_] at ul149_0
                                        have HL149_0 := Aside0.mk (show Kd.V (Kd.int .i64) 3 _ w.heap.size _ _ (rd_L1 x12_3 x19_4) from Kd.V_mk ul149_0 ge149_0)
                                        clear hva_ hvn_ hvc_ ge149_0 ul149_0
                                        clear hcc149 hce149
                                        have HR149_0 := Aside0.mk hi149_0
                                        have HC149_0 := Aside0.mk hl149_0
                                        clear hi149_0 hl149_0
                                        replace p149 := eq_true p149
                                        replace q149 := eq_true q149
                                        obtain ⟨Ao70, co70, eo70⟩ := Kd.N_slice HO_20.out
                                        subst eo70
                                        go_wp2_with (first | (go_at_call 15; (with_reducible refine (ages_Next.calls k5 _ _ (rd_L1 x12_3 x19_4) x19_4 _ _ x20_5 (wrap64 (1 + (Int.tmod (wrap64 (a2)) 40))) t150 _ ?side1 ?side2 ?side3 ?side4 A67.out).mono ?_); (case side1 => repeat (first | exact (by repeat (first | (with_reducible exact HR149_0.out) | (with_reducible refine Kd.C_alloc ?_ _) | (with_reducible refine Kd.C_drewN ?_ _) | (with_reducible refine Kd.C_drew ?_) | exact HR149_0.out)) | (with_reducible refine Kd.C_alloc ?_ _) | (with_reducible refine Kd.C_drewN ?_ _) | (with_reducible refine Kd.C_drew ?_))); (case side2 => exact HC149_0.out); (case side3 => repeat (first | exact (Kd.N_reads' HO_20.out).2.2 | (with_reducible refine Kd.C_alloc ?_ _) | (with_reducible refine Kd.C_drewN ?_ _) | (with_reducible refine Kd.C_drew ?_))); (case side4 => exact (Kd.N_reads' HO_20.out).2.1); rintro e w71 ⟨v151, rfl, ho0, hb⟩; have n0_ := Aside0.mk (Kd.N_elder' (by (with_reducible repeat (first | apply Kd.N_alloc | apply Kd.N_drewN | apply Kd.N_drew)); exact HO_12.out) (Kd.R_base ho0) hb); have n1_ := Aside0.mk (Kd.N_elder' (by (with_reducible repeat (first | apply Kd.N_alloc | apply Kd.N_drewN | apply Kd.N_drew)); exact HO_18.out) (Kd.R_base ho0) hb); have n2_ := Aside0.mk (Kd.N_elder' (by (with_reducible repeat (first | apply Kd.N_alloc | apply Kd.N_drewN | apply Kd.N_drew)); exact HO_20.out) (Kd.R_base ho0) hb); have n3_ := Aside0.mk (Kd.V_elder' (by (with_reducible repeat (first | apply Kd.V_alloc | apply Kd.V_drewN | apply Kd.V_drew)); exact HL149_0.out) (Kd.R_base ho0) hb); have n4_ := Aside0.mk (Kd.R_lower ho0 (below_size (by repeat (first | (with_reducible first | exact HB.out | apply below_alloc | apply pw_below_drewN | apply below_drew1) | exact HB.out)))); have n5_ := Aside0.mk (Kd.C_below (by repeat (first | (with_reducible exact HR149_0.out) | (with_reducible refine Kd.C_alloc ?_ _) | (with_reducible refine Kd.C_drewN ?_ _) | (with_reducible refine Kd.C_drew ?_) | exact HR149_0.out)) hb); have n6_ := Aside0.mk (below_step (by repeat (first | (with_reducible first | exact HB.out | apply below_alloc | apply pw_below_drewN | apply below_drew1) | exact HB.out)) hb); clear HO_12; clear HO_18; clear HO_20; clear HL149_0; clear HR149_0; clear HB; have HO_12 := n0_; have HO_18 := n1_; have HO_20 := n2_; have HL149_0 := n3_; have HO152 := n4_; have HR149_0 := n5_; have HB := n6_; clear n0_ n1_ n2_ n3_ n4_ n5_ n6_; (try clear hb); (try clear hb2); (try clear hk); (try clear hi); (try clear ho0); obtain ⟨Ao73, co73, eo73⟩ := Kd.R_slice HO152.out; subst eo73) | ((with_reducible refine gate_builtin (b := .append) (xs := #[.tmp 149, .tmp 158]) rfl ?_); (try (refine gate_guard (by rfl) ?_; dsimp only)); at_builtin; refine Kd.N_append (Kd.slice 3 (Kd.int .i64)) (w0 := w) w.heap.size rfl (.tmp 149) (.tmp 158) 26 25 (.slice none 0 0) 24 rfl Try.underlying26 info25 rfl (by decide) (by omega) u18 x18_4 t150 [.slice Ao73 t150.length co73] (fun k_ => some k_ ≠ (.slice (some ad149) x12_3.length co69 : Value).ownBlock ∧ some k_ ≠ (.slice Ao70 x20_5.length co70 : Value).ownBlock) (fun k_ => ((fun k_ => some k_ ≠ (.slice (some ad149) x12_3.length co69 : Value).ownBlock ∧ some k_ ≠ (.slice Ao70 x20_5.length co70 : Value).ownBlock)) k_ ∧ some k_ ≠ (u18 : Value).ownBlock) rfl rfl ?aP (fun _ hk => hk) ?aF ?aO ?aB ?aS ?aL ?_; (case aP => exact (Kd.FK_slice_mk (Kd.R_reads' (Kd.R_mono (ok' := (fun k_ => ((fun k_ => some k_ ≠ (.slice (some ad149) x12_3.length co69 : Value).ownBlock ∧ some k_ ≠ (.slice Ao70 x20_5.length co70 : Value).ownBlock)) k_ ∧ some k_ ≠ (u18 : Value).ownBlock)) (Kd.R_apart' (Kd.R_apart' (Kd.R_apart' (HO152.out) (Kd.N_typed HO_12.out) (by decide)) (Kd.N_typed HO_20.out) (by decide)) (Kd.N_typed HO_18.out) (by decide)) (fun k_ hk => ⟨⟨hk.1.1.2, hk.1.2⟩, hk.2⟩))).2.1 (Kd.R_F (Kd.R_mono (ok' := (fun k_ => ((fun k_ => some k_ ≠ (.slice (some ad149) x12_3.length co69 : Value).ownBlock ∧ some k_ ≠ (.slice Ao70 x20_5.length co70 : Value).ownBlock)) k_ ∧ some k_ ≠ (u18 : Value).ownBlock)) (Kd.R_apart' (Kd.R_apart' (Kd.R_apart' (HO152.out) (Kd.N_typed HO_12.out) (by decide)) (Kd.N_typed HO_20.out) (by decide)) (Kd.N_typed HO_18.out) (by decide)) (fun k_ hk => ⟨⟨hk.1.1.2, hk.1.2⟩, hk.2⟩))))); (case aB => exact (by repeat (first | (with_reducible first | exact HB.out | apply below_alloc | apply pw_below_drewN | apply below_drew1) | exact HB.out))); (case aF => exact (fun k_ hk => ⟨Kd.fresh' (Kd.N_lt (by (with_reducible repeat (first | apply Kd.N_alloc | apply Kd.N_drewN | apply Kd.N_drew)); exact HO_12.out)) k_ hk, Kd.fresh' (Kd.N_lt (by (with_reducible repeat (first | apply Kd.N_alloc | apply Kd.N_drewN | apply Kd.N_drew)); exact HO_20.out)) k_ hk⟩)); (case aO => exact (by (with_reducible repeat (first | apply Kd.N_alloc | apply Kd.N_drewN | apply Kd.N_drew)); exact Kd.N_mono HO_18.out (fun _ hk => ⟨hk.1.1, hk.1.2⟩))); (case aS => exact (below_size (by repeat (first | (with_reducible first | exact HB.out | apply below_alloc | apply pw_below_drewN | apply below_drew1) | exact HB.out)))); (case aL => have := LMc68.out; omega); intro v154 w72 ho hb hg hat; rw [← Ny153.out] at ho; have n0_ := Aside0.mk (Kd.N_afterv (ok := (fun k_ => some k_ ≠ (.slice Ao70 x20_5.length co70 : Value).ownBlock ∧ some k_ ≠ (.slice Ao73 t150.length co73 : Value).ownBlock)) (by (with_reducible repeat (first | apply Kd.N_alloc | apply Kd.N_drewN | apply Kd.N_drew)); exact Kd.N_mono HO_12.out (fun _ hk => ⟨⟨hk.1.2, hk.2⟩, hk.1.1⟩)) hg hat); have n1_ := Aside0.mk (Kd.N_afterv (ok := (fun k_ => some k_ ≠ (.slice (some ad149) x12_3.length co69 : Value).ownBlock ∧ some k_ ≠ (.slice Ao73 t150.length co73 : Value).ownBlock)) (by (with_reducible repeat (first | apply Kd.N_alloc | apply Kd.N_drewN | apply Kd.N_drew)); exact Kd.N_mono HO_20.out (fun _ hk => ⟨⟨hk.1.1, hk.2⟩, hk.1.2⟩)) hg hat); have n2_ := Aside0.mk (Kd.V_afterv (ok := (fun k_ => some k_ ≠ (.slice (some ad149) x12_3.length co69 : Value).ownBlock ∧ some k_ ≠ (.slice Ao70 x20_5.length co70 : Value).ownBlock ∧ some k_ ≠ (.slice Ao73 t150.length co73 : Value).ownBlock)) (by (with_reducible repeat (first | apply Kd.V_alloc | apply Kd.V_drewN | apply Kd.V_drew)); exact Kd.V_mono HL149_0.out (fun _ hk => ⟨⟨hk.1.2, ⟨hk.1.1.2, hk.2⟩⟩, hk.1.1.1⟩)) hg hat); have n3_ := Aside0.mk (hb); have n4_ := Aside0.mk (ho); clear HO_12; clear HO_20; clear HL149_0; clear HB; clear HO_18; clear HO152; have HO_12 := n0_; have HO_20 := n1_; have HL149_0 := n2_; have HB := n3_; have HO155 := n4_; clear n0_ n1_ n2_ n3_ n4_; clear ho hb hg hat))
                                        repeat (go_quiet (first | (go_at_call 15; (with_reducible refine (ages_Next.calls k5 _ _ (rd_L1 x12_3 x19_4) x19_4 _ _ x20_5 (wrap64 (1 + (Int.tmod (wrap64 (a2)) 40))) t150 _ ?side1 ?side2 ?side3 ?side4 A67.out).mono ?_); (case side1 => repeat (first | exact (by repeat (first | (with_reducible exact HR149_0.out) | (with_reducible refine Kd.C_alloc ?_ _) | (with_reducible refine Kd.C_drewN ?_ _) | (with_reducible refine Kd.C_drew ?_) | exact HR149_0.out)) | (with_reducible refine Kd.C_alloc ?_ _) | (with_reducible refine Kd.C_drewN ?_ _) | (with_reducible refine Kd.C_drew ?_))); (case side2 => exact HC149_0.out); (case side3 => repeat (first | exact (Kd.N_reads' HO_20.out).2.2 | (with_reducible refine Kd.C_alloc ?_ _) | (with_reducible refine Kd.C_drewN ?_ _) | (with_reducible refine Kd.C_drew ?_))); (case side4 => exact (Kd.N_reads' HO_20.out).2.1); rintro e w71 ⟨v151, rfl, ho0, hb⟩; have n0_ := Aside0.mk (Kd.N_elder' (by (with_reducible repeat (first | apply Kd.N_alloc | apply Kd.N_drewN | apply Kd.N_drew)); exact HO_12.out) (Kd.R_base ho0) hb); have n1_ := Aside0.mk (Kd.N_elder' (by (with_reducible repeat (first | apply Kd.N_alloc | apply Kd.N_drewN | apply Kd.N_drew)); exact HO_18.out) (Kd.R_base ho0) hb); have n2_ := Aside0.mk (Kd.N_elder' (by (with_reducible repeat (first | apply Kd.N_alloc | apply Kd.N_drewN | apply Kd.N_drew)); exact HO_20.out) (Kd.R_base ho0) hb); have n3_ := Aside0.mk (Kd.V_elder' (by (with_reducible repeat (first | apply Kd.V_alloc | apply Kd.V_drewN | apply Kd.V_drew)); exact HL149_0.out) (Kd.R_base ho0) hb); have n4_ := Aside0.mk (Kd.R_lower ho0 (below_size (by repeat (first | (with_reducible first | exact HB.out | apply below_alloc | apply pw_below_drewN | apply below_drew1) | exact HB.out)))); have n5_ := Aside0.mk (Kd.C_below (by repeat (first | (with_reducible exact HR149_0.out) | (with_reducible refine Kd.C_alloc ?_ _) | (with_reducible refine Kd.C_drewN ?_ _) | (with_reducible refine Kd.C_drew ?_) | exact HR149_0.out)) hb); have n6_ := Aside0.mk (below_step (by repeat (first | (with_reducible first | exact HB.out | apply below_alloc | apply pw_below_drewN | apply below_drew1) | exact HB.out)) hb); clear HO_12; clear HO_18; clear HO_20; clear HL149_0; clear HR149_0; clear HB; have HO_12 := n0_; have HO_18 := n1_; have HO_20 := n2_; have HL149_0 := n3_; have HO152 := n4_; have HR149_0 := n5_; have HB := n6_; clear n0_ n1_ n2_ n3_ n4_ n5_ n6_; (try clear hb); (try clear hb2); (try clear hk); (try clear hi); (try clear ho0); obtain ⟨Ao73, co73, eo73⟩ := Kd.R_slice HO152.out; subst eo73) | ((with_reducible refine gate_builtin (b := .append) (xs := #[.tmp 149, .tmp 158]) rfl ?_); (try (refine gate_guard (by rfl) ?_; dsimp only)); at_builtin; refine Kd.N_append (Kd.slice 3 (Kd.int .i64)) (w0 := w) w.heap.size rfl (.tmp 149) (.tmp 158) 26 25 (.slice none 0 0) 24 rfl Try.underlying26 info25 rfl (by decide) (by omega) u18 x18_4 t150 [.slice Ao73 t150.length co73] (fun k_ => some k_ ≠ (.slice (some ad149) x12_3.length co69 : Value).ownBlock ∧ some k_ ≠ (.slice Ao70 x20_5.length co70 : Value).ownBlock) (fun k_ => ((fun k_ => some k_ ≠ (.slice (some ad149) x12_3.length co69 : Value).ownBlock ∧ some k_ ≠ (.slice Ao70 x20_5.length co70 : Value).ownBlock)) k_ ∧ some k_ ≠ (u18 : Value).ownBlock) rfl rfl ?aP (fun _ hk => hk) ?aF ?aO ?aB ?aS ?aL ?_; (case aP => exact (Kd.FK_slice_mk (Kd.R_reads' (Kd.R_mono (ok' := (fun k_ => ((fun k_ => some k_ ≠ (.slice (some ad149) x12_3.length co69 : Value).ownBlock ∧ some k_ ≠ (.slice Ao70 x20_5.length co70 : Value).ownBlock)) k_ ∧ some k_ ≠ (u18 : Value).ownBlock)) (Kd.R_apart' (Kd.R_apart' (Kd.R_apart' (HO152.out) (Kd.N_typed HO_12.out) (by decide)) (Kd.N_typed HO_20.out) (by decide)) (Kd.N_typed HO_18.out) (by decide)) (fun k_ hk => ⟨⟨hk.1.1.2, hk.1.2⟩, hk.2⟩))).2.1 (Kd.R_F (Kd.R_mono (ok' := (fun k_ => ((fun k_ => some k_ ≠ (.slice (some ad149) x12_3.length co69 : Value).ownBlock ∧ some k_ ≠ (.slice Ao70 x20_5.length co70 : Value).ownBlock)) k_ ∧ some k_ ≠ (u18 : Value).ownBlock)) (Kd.R_apart' (Kd.R_apart' (Kd.R_apart' (HO152.out) (Kd.N_typed HO_12.out) (by decide)) (Kd.N_typed HO_20.out) (by decide)) (Kd.N_typed HO_18.out) (by decide)) (fun k_ hk => ⟨⟨hk.1.1.2, hk.1.2⟩, hk.2⟩))))); (case aB => exact (by repeat (first | (with_reducible first | exact HB.out | apply below_alloc | apply pw_below_drewN | apply below_drew1) | exact HB.out))); (case aF => exact (fun k_ hk => ⟨Kd.fresh' (Kd.N_lt (by (with_reducible repeat (first | apply Kd.N_alloc | apply Kd.N_drewN | apply Kd.N_drew)); exact HO_12.out)) k_ hk, Kd.fresh' (Kd.N_lt (by (with_reducible repeat (first | apply Kd.N_alloc | apply Kd.N_drewN | apply Kd.N_drew)); exact HO_20.out)) k_ hk⟩)); (case aO => exact (by (with_reducible repeat (first | apply Kd.N_alloc | apply Kd.N_drewN | apply Kd.N_drew)); exact Kd.N_mono HO_18.out (fun _ hk => ⟨hk.1.1, hk.1.2⟩))); (case aS => exact (below_size (by repeat (first | (with_reducible first | exact HB.out | apply below_alloc | apply pw_below_drewN | apply below_drew1) | exact HB.out)))); (case aL => have := LMc68.out; omega); intro v154 w72 ho hb hg hat; rw [← Ny153.out] at ho; have n0_ := Aside0.mk (Kd.N_afterv (ok := (fun k_ => some k_ ≠ (.slice Ao70 x20_5.length co70 : Value).ownBlock ∧ some k_ ≠ (.slice Ao73 t150.length co73 : Value).ownBlock)) (by (with_reducible repeat (first | apply Kd.N_alloc | apply Kd.N_drewN | apply Kd.N_drew)); exact Kd.N_mono HO_12.out (fun _ hk => ⟨⟨hk.1.2, hk.2⟩, hk.1.1⟩)) hg hat); have n1_ := Aside0.mk (Kd.N_afterv (ok := (fun k_ => some k_ ≠ (.slice (some ad149) x12_3.length co69 : Value).ownBlock ∧ some k_ ≠ (.slice Ao73 t150.length co73 : Value).ownBlock)) (by (with_reducible repeat (first | apply Kd.N_alloc | apply Kd.N_drewN | apply Kd.N_drew)); exact Kd.N_mono HO_20.out (fun _ hk => ⟨⟨hk.1.1, hk.2⟩, hk.1.2⟩)) hg hat); have n2_ := Aside0.mk (Kd.V_afterv (ok := (fun k_ => some k_ ≠ (.slice (some ad149) x12_3.length co69 : Value).ownBlock ∧ some k_ ≠ (.slice Ao70 x20_5.length co70 : Value).ownBlock ∧ some k_ ≠ (.slice Ao73 t150.length co73 : Value).ownBlock)) (by (with_reducible repeat (first | apply Kd.V_alloc | apply Kd.V_drewN | apply Kd.V_drew)); exact Kd.V_mono HL149_0.out (fun _ hk => ⟨⟨hk.1.2, ⟨hk.1.1.2, hk.2⟩⟩, hk.1.1.1⟩)) hg hat); have n3_ := Aside0.mk (hb); have n4_ := Aside0.mk (ho); clear HO_12; clear HO_20; clear HL149_0; clear HB; clear HO_18; clear HO152; have HO_12 := n0_; have HO_20 := n1_; have HL149_0 := n2_; have HB := n3_; have HO155 := n4_; clear n0_ n1_ n2_ n3_ n4_; clear ho hb hg hat)); try go_wp2_with (first | (go_at_call 15; (with_reducible refine (ages_Next.calls k5 _ _ (rd_L1 x12_3 x19_4) x19_4 _ _ x20_5 (wrap64 (1 + (Int.tmod (wrap64 (a2)) 40))) t150 _ ?side1 ?side2 ?side3 ?side4 A67.out).mono ?_); (case side1 => repeat (first | exact (by repeat (first | (with_reducible exact HR149_0.out) | (with_reducible refine Kd.C_alloc ?_ _) | (with_reducible refine Kd.C_drewN ?_ _) | (with_reducible refine Kd.C_drew ?_) | exact HR149_0.out)) | (with_reducible refine Kd.C_alloc ?_ _) | (with_reducible refine Kd.C_drewN ?_ _) | (with_reducible refine Kd.C_drew ?_))); (case side2 => exact HC149_0.out); (case side3 => repeat (first | exact (Kd.N_reads' HO_20.out).2.2 | (with_reducible refine Kd.C_alloc ?_ _) | (with_reducible refine Kd.C_drewN ?_ _) | (with_reducible refine Kd.C_drew ?_))); (case side4 => exact (Kd.N_reads' HO_20.out).2.1); rintro e w71 ⟨v151, rfl, ho0, hb⟩; have n0_ := Aside0.mk (Kd.N_elder' (by (with_reducible repeat (first | apply Kd.N_alloc | apply Kd.N_drewN | apply Kd.N_drew)); exact HO_12.out) (Kd.R_base ho0) hb); have n1_ := Aside0.mk (Kd.N_elder' (by (with_reducible repeat (first | apply Kd.N_alloc | apply Kd.N_drewN | apply Kd.N_drew)); exact HO_18.out) (Kd.R_base ho0) hb); have n2_ := Aside0.mk (Kd.N_elder' (by (with_reducible repeat (first | apply Kd.N_alloc | apply Kd.N_drewN | apply Kd.N_drew)); exact HO_20.out) (Kd.R_base ho0) hb); have n3_ := Aside0.mk (Kd.V_elder' (by (with_reducible repeat (first | apply Kd.V_alloc | apply Kd.V_drewN | apply Kd.V_drew)); exact HL149_0.out) (Kd.R_base ho0) hb); have n4_ := Aside0.mk (Kd.R_lower ho0 (below_size (by repeat (first | (with_reducible first | exact HB.out | apply below_alloc | apply pw_below_drewN | apply below_drew1) | exact HB.out)))); have n5_ := Aside0.mk (Kd.C_below (by repeat (first | (with_reducible exact HR149_0.out) | (with_reducible refine Kd.C_alloc ?_ _) | (with_reducible refine Kd.C_drewN ?_ _) | (with_reducible refine Kd.C_drew ?_) | exact HR149_0.out)) hb); have n6_ := Aside0.mk (below_step (by repeat (first | (with_reducible first | exact HB.out | apply below_alloc | apply pw_below_drewN | apply below_drew1) | exact HB.out)) hb); clear HO_12; clear HO_18; clear HO_20; clear HL149_0; clear HR149_0; clear HB; have HO_12 := n0_; have HO_18 := n1_; have HO_20 := n2_; have HL149_0 := n3_; have HO152 := n4_; have HR149_0 := n5_; have HB := n6_; clear n0_ n1_ n2_ n3_ n4_ n5_ n6_; (try clear hb); (try clear hb2); (try clear hk); (try clear hi); (try clear ho0); obtain ⟨Ao73, co73, eo73⟩ := Kd.R_slice HO152.out; subst eo73) | ((with_reducible refine gate_builtin (b := .append) (xs := #[.tmp 149, .tmp 158]) rfl ?_); (try (refine gate_guard (by rfl) ?_; dsimp only)); at_builtin; refine Kd.N_append (Kd.slice 3 (Kd.int .i64)) (w0 := w) w.heap.size rfl (.tmp 149) (.tmp 158) 26 25 (.slice none 0 0) 24 rfl Try.underlying26 info25 rfl (by decide) (by omega) u18 x18_4 t150 [.slice Ao73 t150.length co73] (fun k_ => some k_ ≠ (.slice (some ad149) x12_3.length co69 : Value).ownBlock ∧ some k_ ≠ (.slice Ao70 x20_5.length co70 : Value).ownBlock) (fun k_ => ((fun k_ => some k_ ≠ (.slice (some ad149) x12_3.length co69 : Value).ownBlock ∧ some k_ ≠ (.slice Ao70 x20_5.length co70 : Value).ownBlock)) k_ ∧ some k_ ≠ (u18 : Value).ownBlock) rfl rfl ?aP (fun _ hk => hk) ?aF ?aO ?aB ?aS ?aL ?_; (case aP => exact (Kd.FK_slice_mk (Kd.R_reads' (Kd.R_mono (ok' := (fun k_ => ((fun k_ => some k_ ≠ (.slice (some ad149) x12_3.length co69 : Value).ownBlock ∧ some k_ ≠ (.slice Ao70 x20_5.length co70 : Value).ownBlock)) k_ ∧ some k_ ≠ (u18 : Value).ownBlock)) (Kd.R_apart' (Kd.R_apart' (Kd.R_apart' (HO152.out) (Kd.N_typed HO_12.out) (by decide)) (Kd.N_typed HO_20.out) (by decide)) (Kd.N_typed HO_18.out) (by decide)) (fun k_ hk => ⟨⟨hk.1.1.2, hk.1.2⟩, hk.2⟩))).2.1 (Kd.R_F (Kd.R_mono (ok' := (fun k_ => ((fun k_ => some k_ ≠ (.slice (some ad149) x12_3.length co69 : Value).ownBlock ∧ some k_ ≠ (.slice Ao70 x20_5.length co70 : Value).ownBlock)) k_ ∧ some k_ ≠ (u18 : Value).ownBlock)) (Kd.R_apart' (Kd.R_apart' (Kd.R_apart' (HO152.out) (Kd.N_typed HO_12.out) (by decide)) (Kd.N_typed HO_20.out) (by decide)) (Kd.N_typed HO_18.out) (by decide)) (fun k_ hk => ⟨⟨hk.1.1.2, hk.1.2⟩, hk.2⟩))))); (case aB => exact (by repeat (first | (with_reducible first | exact HB.out | apply below_alloc | apply pw_below_drewN | apply below_drew1) | exact HB.out))); (case aF => exact (fun k_ hk => ⟨Kd.fresh' (Kd.N_lt (by (with_reducible repeat (first | apply Kd.N_alloc | apply Kd.N_drewN | apply Kd.N_drew)); exact HO_12.out)) k_ hk, Kd.fresh' (Kd.N_lt (by (with_reducible repeat (first | apply Kd.N_alloc | apply Kd.N_drewN | apply Kd.N_drew)); exact HO_20.out)) k_ hk⟩)); (case aO => exact (by (with_reducible repeat (first | apply Kd.N_alloc | apply Kd.N_drewN | apply Kd.N_drew)); exact Kd.N_mono HO_18.out (fun _ hk => ⟨hk.1.1, hk.1.2⟩))); (case aS => exact (below_size (by repeat (first | (with_reducible first | exact HB.out | apply below_alloc | apply pw_below_drewN | apply below_drew1) | exact HB.out)))); (case aL => have := LMc68.out; omega); intro v154 w72 ho hb hg hat; rw [← Ny153.out] at ho; have n0_ := Aside0.mk (Kd.N_afterv (ok := (fun k_ => some k_ ≠ (.slice Ao70 x20_5.length co70 : Value).ownBlock ∧ some k_ ≠ (.slice Ao73 t150.length co73 : Value).ownBlock)) (by (with_reducible repeat (first | apply Kd.N_alloc | apply Kd.N_drewN | apply Kd.N_drew)); exact Kd.N_mono HO_12.out (fun _ hk => ⟨⟨hk.1.2, hk.2⟩, hk.1.1⟩)) hg hat); have n1_ := Aside0.mk (Kd.N_afterv (ok := (fun k_ => some k_ ≠ (.slice (some ad149) x12_3.length co69 : Value).ownBlock ∧ some k_ ≠ (.slice Ao73 t150.length co73 : Value).ownBlock)) (by (with_reducible repeat (first | apply Kd.N_alloc | apply Kd.N_drewN | apply Kd.N_drew)); exact Kd.N_mono HO_20.out (fun _ hk => ⟨⟨hk.1.1, hk.2⟩, hk.1.2⟩)) hg hat); have n2_ := Aside0.mk (Kd.V_afterv (ok := (fun k_ => some k_ ≠ (.slice (some ad149) x12_3.length co69 : Value).ownBlock ∧ some k_ ≠ (.slice Ao70 x20_5.length co70 : Value).ownBlock ∧ some k_ ≠ (.slice Ao73 t150.length co73 : Value).ownBlock)) (by (with_reducible repeat (first | apply Kd.V_alloc | apply Kd.V_drewN | apply Kd.V_drew)); exact Kd.V_mono HL149_0.out (fun _ hk => ⟨⟨hk.1.2, ⟨hk.1.1.2, hk.2⟩⟩, hk.1.1.1⟩)) hg hat); have n3_ := Aside0.mk (hb); have n4_ := Aside0.mk (ho); clear HO_12; clear HO_20; clear HL149_0; clear HB; clear HO_18; clear HO152; have HO_12 := n0_; have HO_20 := n1_; have HL149_0 := n2_; have HB := n3_; have HO155 := n4_; clear n0_ n1_ n2_ n3_ n4_; clear ho hb hg hat)))
                                        go_roundg k5
                                        case measure => have := HJ4.out; have := HK2.out; have := HK3.out; have := HK4.out; have := HK5.out; omega
                                        case rel => exact ⟨(y153), (wrap64 (x19_4 + 1)), (by first | rfl | (simp; done) | (simp [*]; done)), H', ⟨by have := HJ4.out; have := HK2.out; have := HK3.out; have := HK4.out; have := HK5.out; omega⟩, ⟨by (with_reducible repeat (first | apply Kd.N_alloc | apply Kd.N_drewN | apply Kd.N_drew)); exact Kd.N_mono HO_12.out (fun _ hk => hk.2)⟩, ⟨by (with_reducible repeat (first | apply Kd.N_alloc | apply Kd.N_drewN | apply Kd.N_drew)); exact Kd.N_mono HO155.out (fun _ hk => hk.1)⟩, ⟨by repeat (first | (with_reducible first | exact HB.out | apply below_alloc | apply pw_below_drewN | apply below_drew1) | exact HB.out)⟩⟩
                                      · rw [if_neg c68] at H
                                        exact absurd H (by simp)
                                    · rw [if_neg c66] at H
                                      exact absurd H (by simp)
                                  · rw [if_neg c65] at H
                                    exact absurd H (by simp)
                          · rw [if_neg c33] at H
                            have c33b0 : decide (x19_4 < (l0.length : Int)) = false := decide_eq_false c33
                            clear c33
                            have H' := Aside0.mk H
                            clear H
                            go_wp2
                            repeat (go_quiet (fail); try go_wp2)
                            go_roundg k4
                            case measure => have := HJ4.out; have := HK2.out; have := HK3.out; have := HK4.out; omega
                            case rel => exact ⟨(x18_4), (wrap64 (x17_3 + 1)), (by first | rfl | (simp; done) | (simp [*]; done)), H', ⟨by have := HJ4.out; have := HK2.out; have := HK3.out; have := HK4.out; omega⟩, ⟨by (with_reducible repeat (first | apply Kd.N_alloc | apply Kd.N_drewN | apply Kd.N_drew)); exact Kd.N_mono HO_18.out (fun _ hk => trivial)⟩, ⟨by repeat (first | (with_reducible first | exact HB.out | apply below_alloc | apply pw_below_drewN | apply below_drew1) | exact HB.out)⟩⟩
                    · rw [if_neg c32] at H
                      have c32b0 : decide (x17_3 < (wrap64 (1 + (Int.tmod (wrap64 (a2)) 40)))) = false := decide_eq_false c32
                      clear c32
                      have H' := Aside0.mk H
                      clear H
                      go_wp2
                      repeat (go_quiet (fail); try go_wp2)
                      go_loopg [24] k3 (fun kq v24 w' => ∃ (x24_4 : Int), v24 = .int .i64 x24_4 ∧ Aside0 (drumlinelaw15_AgesGone.l5 kq (wrap64 (1 + (Int.tmod (wrap64 (a2)) 40))) (l0.length : Int) (Int.tmod (wrap64 (a3)) (l0.length : Int)) x12_3 x24_4 = some r) ∧ Aside0 (kq ≤ k3) ∧ Aside0 (Kd.N (Kd.slice 3 (Kd.int .i64)) 25 w' w.heap.size (fun _ => True) u12 x12_3) ∧ Aside0 (Below w.heap.size w w'))
                      case atStart => exact ⟨(0), (by first | rfl | (simp; done) | (simp [*]; done)), H', ⟨Nat.le_refl _⟩, ⟨by (with_reducible repeat (first | apply Kd.N_alloc | apply Kd.N_drewN | apply Kd.N_drew)); exact HO_12.out⟩, ⟨by repeat (first | (with_reducible first | exact HB.out | apply below_alloc | apply pw_below_drewN | apply below_drew1) | exact HB.out)⟩⟩
                      case round =>
                        clear H'
                        try clear c1
                        try clear p1
                        try clear q1
                        try clear hx1
                        try clear c2
                        try clear p2
                        try clear c3
                        try clear c4
                        try clear c5
                        try clear c6
                        try clear p6
                        try clear c7
                        try clear c8
                        try clear c8b0
                        try clear c8b1
                        try clear c10
                        try clear c10b0
                        try clear c10b1
                        try clear c13
                        try clear p13
                        try clear q13
                        try clear hx13
                        try clear c14
                        try clear p14
                        try clear q14
                        try clear hx14
                        try clear c15
                        try clear p15
                        try clear q15
                        try clear hx15
                        try clear c16
                        try clear p16
                        try clear q16
                        try clear hx16
                        try clear c17
                        try clear c17b0
                        try clear c17b1
                        try clear c17b2
                        try clear c18
                        try clear c18b0
                        try clear c19
                        try clear c19b0
                        try clear c20
                        try clear c20b0
                        try clear c21
                        try clear c21b0
                        try clear c22
                        try clear c22b0
                        try clear c23
                        try clear c23b0
                        try clear c25
                        try clear c27
                        try clear c29
                        try clear c32
                        try clear c32b0
                        try clear c33
                        try clear c33b0
                        try clear c34
                        try clear c34b0
                        try clear c35
                        try clear c35b0
                        try clear c36
                        try clear c36b0
                        try clear c36b1
                        try clear c36b2
                        try clear c38
                        try clear c38b0
                        try clear c38b1
                        try clear c39
                        try clear c41
                        try clear c41b0
                        try clear c42
                        try clear c42b0
                        try clear c43
                        try clear c44
                        try clear c44b0
                        try clear c44b1
                        try clear c45
                        try clear c45b0
                        try clear c45b1
                        try clear c49
                        try clear c49b0
                        try clear c50
                        try clear c50b0
                        try clear c51
                        try clear c57
                        try clear c57b0
                        try clear c57b1
                        try clear c58
                        try clear c58b0
                        try clear c58b1
                        try clear c60
                        try clear c60b0
                        try clear c61
                        try clear c61b0
                        try clear c62
                        try clear p64
                        try clear c65
                        try clear c65b0
                        try clear c66
                        try clear c66b0
                        try clear c68
                        try clear hx137_0
                        try clear hx138_0
                        try clear hx139_0
                        try clear hx149_0
                        try clear hx156_0
                        try clear hx157_0
                        try clear hx158_0
                        try clear hx162_0
                        try clear hx166_0
                        try clear p1
                        try clear p13
                        try clear p137
                        try clear p138
                        try clear p139
                        try clear p149
                        try clear p15
                        try clear p156
                        try clear p157
                        try clear p158
                        try clear p162
                        try clear p166
                        try clear p2
                        try clear p6
                        try clear q1
                        try clear q13
                        try clear q137
                        try clear q138
                        try clear q139
                        try clear q149
                        try clear q15
                        try clear q156
                        try clear q157
                        try clear q158
                        try clear q162
                        try clear q166
                        obtain ⟨x24_4, rfl, HA, HK4, HO_12, HB⟩ := hrel
                        cases gk with
                        | zero => exact absurd HA.out (by simp [drumlinelaw15_AgesGone.l5])
                        | succ k4 =>
                          have H := HA.out
                          clear HA
                          simp only [drumlinelaw15_AgesGone.l5] at H
                          by_cases c74 : x24_4 < (l0.length : Int)
                          · rw [if_pos c74] at H
                            have c74b0 : decide (x24_4 < (l0.length : Int)) = true := decide_eq_true c74
                            clear c74
                            by_cases c75 : x24_4 = (Int.tmod (wrap64 (a3)) (l0.length : Int))
                            · rw [if_pos c75] at H
                              have c75b0 : (x24_4 == (Int.tmod (wrap64 (a3)) (l0.length : Int))) = true := beq_iff_eq.mpr c75
                              have c75b1 : (x24_4 != (Int.tmod (wrap64 (a3)) (l0.length : Int))) = false := bne_eq_false_iff_eq.mpr c75
                              clear c75
                              have H' := Aside0.mk H
                              clear H
                              go_wp2
                              repeat (go_quiet (fail); try go_wp2)
                              go_roundg k4
                              case measure => have := HJ4.out; have := HK2.out; have := HK3.out; have := HK4.out; omega
                              case rel => exact ⟨(wrap64 (x24_4 + 1)), (by first | rfl | (simp; done) | (simp [*]; done)), H', ⟨by have := HJ4.out; have := HK2.out; have := HK3.out; have := HK4.out; omega⟩, ⟨by (with_reducible repeat (first | apply Kd.N_alloc | apply Kd.N_drewN | apply Kd.N_drew)); exact HO_12.out⟩, ⟨by repeat (first | (with_reducible first | exact HB.out | apply below_alloc | apply pw_below_drewN | apply below_drew1) | exact HB.out)⟩⟩
                            · rw [if_neg c75] at H
                              have c75b0 : (x24_4 == (Int.tmod (wrap64 (a3)) (l0.length : Int))) = false := beq_eq_false_iff_ne.mpr c75
                              have c75b1 : (x24_4 != (Int.tmod (wrap64 (a3)) (l0.length : Int))) = true := bne_iff_ne.mpr c75
                              by_cases c76 : 0 ≤ x24_4
                              · rw [if_pos c76] at H
                                have c76b0 : decide (0 ≤ x24_4) = true := decide_eq_true c76
                                clear c76
                                by_cases c77 : x24_4 < (x12_3.length : Int)
                                · rw [if_pos c77] at H
                                  have c77b0 : decide (x24_4 < (x12_3.length : Int)) = true := decide_eq_true c77
                                  clear c77
                                  replace H := Option.bind_eq_some_iff.mp H
                                  obtain ⟨t171, A780, H⟩ := H
                                  replace H : (if 0 ≤ (IntKind.u64.wrap ((Int.tmod (wrap64 (a3)) (l0.length : Int)))) then (if (Go.bits .and .i64 (shr .i64 t171 (IntKind.u64.wrap ((Int.tmod (wrap64 (a3)) (l0.length : Int))))) 1) = 1 then (some false) else (drumlinelaw15_AgesGone.l5 k4 (wrap64 (1 + (Int.tmod (wrap64 (a2)) 40))) (l0.length : Int) (Int.tmod (wrap64 (a3)) (l0.length : Int)) x12_3 (wrap64 (x24_4 + 1)))) else (none)) = some r := H
                                  have A78 := Aside0.mk A780
                                  clear A780
                                  obtain ⟨ji79, hji79⟩ : ∃ j_ : Int, (IntKind.u64.wrap ((Int.tmod (wrap64 (a3)) (l0.length : Int)))) = j_ := ⟨_, rfl⟩
                                  replace H : (if 0 ≤ (ji79) then (if (Go.bits .and .i64 (shr .i64 t171 (ji79)) 1) = 1 then (some false) else (drumlinelaw15_AgesGone.l5 k4 (wrap64 (1 + (Int.tmod (wrap64 (a2)) 40))) (l0.length : Int) (Int.tmod (wrap64 (a3)) (l0.length : Int)) x12_3 (wrap64 (x24_4 + 1)))) else (none)) = some r := by first | (rw [hji79] at H; exact H) | (simp only [hji79] at H ⊢; exact H)
                                  (try rw [hji79] at A78)
                                  by_cases c80 : 0 ≤ (ji79)
                                  · rw [if_pos c80] at H
                                    have c80b0 := eq_true c80
                                    have c80b1 : decide (0 ≤ (ji79)) = true := decide_eq_true c80
                                    clear c80
                                    obtain ⟨ji81, hji81⟩ : ∃ j_ : Int, (shr .i64 t171 (ji79)) = j_ := ⟨_, rfl⟩
                                    replace H : (if (Go.bits .and .i64 (ji81) 1) = 1 then (some false) else (drumlinelaw15_AgesGone.l5 k4 (wrap64 (1 + (Int.tmod (wrap64 (a2)) 40))) (l0.length : Int) (Int.tmod (wrap64 (a3)) (l0.length : Int)) x12_3 (wrap64 (x24_4 + 1)))) = some r := by first | (rw [hji81] at H; exact H) | (simp only [hji81] at H ⊢; exact H)
                                    (try rw [hji81] at A78)
                                    have hji81_ : (t171 / 2 ^ min (ji79).toNat 64) = ji81 := hji81
                                    have hji81z : (ji79) ≤ 64 → (t171 / 2 ^ (ji79).toNat) = ji81 := shr_small hji81
                                    by_cases c82 : (Go.bits .and .i64 (ji81) 1) = 1
                                    · rw [if_pos c82] at H
                                      have c82b0 : ((Go.bits .and .i64 (ji81) 1) == 1) = true := beq_iff_eq.mpr c82
                                      have c82b1 : ((Go.bits .and .i64 (ji81) 1) != 1) = false := bne_eq_false_iff_eq.mpr c82
                                      clear c82
                                      obtain rfl := Option.some.inj H
                                      obtain ⟨Ao83, co83, eo83⟩ := Kd.N_slice HO_12.out
                                      subst eo83
                                      have p170 : 0 ≤ (x24_4 : Int) := of_decide_eq_true (by first | (with_reducible assumption) | assumption)
                                      have q170 : x24_4 < (x12_3.length : Int) := of_decide_eq_true (by first | (with_reducible assumption) | assumption)
                                      obtain ⟨ad170, A170_0, c170_0, e170, hx170_0, hl170_0, hi170_0⟩ := at_L1 (Kd.N_reads' HO_12.out).2.2 x24_4 p170 q170
                                      cases e170
                                      obtain ⟨ce170, hce170, hMe170, hcc170⟩ := Kd.N_get HO_12.out [] x24_4 p170 (by first | exact q170 | exact of_decide_eq_true (by first | (with_reducible assumption) | assumption) | (have e_ := (Kd.N_reads' HO_12.out).1; omega))
                                      obtain ⟨ua170_0, uc170_0, rfl, ul170_0, ge170_0⟩ := Kd.FK_slice_open hMe170
                                      have hv170_0 := hcc170 0 _ rfl
                                      rw [Nat.add_zero, show ((Kd.slice 3 (Kd.int .i64))).sz = 1 from rfl, Nat.mul_one] at hv170_0
                                      replace hv170_0 := Option.some.inj (hv170_0.symm.trans hx170_0)
                                      injection hv170_0 with hva_ hvn_ hvc_
                                      rw [hva_] at ge170_0
                                      rw [hvc_] at ul170_0
                                      have HL170_0 := Aside0.mk (show Kd.V (Kd.int .i64) 3 _ w.heap.size _ _ (rd_L1 x12_3 x24_4) from Kd.V_mk ul170_0 ge170_0)
                                      clear hva_ hvn_ hvc_ ge170_0 ul170_0
                                      clear hcc170 hce170
                                      have HR170_0 := Aside0.mk hi170_0
                                      have HC170_0 := Aside0.mk hl170_0
                                      clear hi170_0 hl170_0
                                      replace p170 := eq_true p170
                                      replace q170 := eq_true q170
                                      go_wp2_with (first | (go_at_call 16; (with_reducible refine (ages_Alive.calls k4 _ _ (rd_L1 x12_3 x24_4) (wrap64 (1 + (Int.tmod (wrap64 (a2)) 40))) t171 _ ?side1 ?side2 A78.out).mono ?_); (case side1 => repeat (first | exact (by repeat (first | (with_reducible exact HR170_0.out) | (with_reducible refine Kd.C_alloc ?_ _) | (with_reducible refine Kd.C_drewN ?_ _) | (with_reducible refine Kd.C_drew ?_) | exact HR170_0.out)) | (with_reducible refine Kd.C_alloc ?_ _) | (with_reducible refine Kd.C_drewN ?_ _) | (with_reducible refine Kd.C_drew ?_))); (case side2 => exact HC170_0.out); rintro e w84 ⟨rfl, hb⟩; have n0_ := Aside0.mk (Kd.N_below (by (with_reducible repeat (first | apply Kd.N_alloc | apply Kd.N_drewN | apply Kd.N_drew)); exact HO_12.out) hb); have n1_ := Aside0.mk (Kd.V_below (by (with_reducible repeat (first | apply Kd.V_alloc | apply Kd.V_drewN | apply Kd.V_drew)); exact HL170_0.out) hb); have n2_ := Aside0.mk (Kd.C_below (by repeat (first | (with_reducible exact HR170_0.out) | (with_reducible refine Kd.C_alloc ?_ _) | (with_reducible refine Kd.C_drewN ?_ _) | (with_reducible refine Kd.C_drew ?_) | exact HR170_0.out)) hb); have n3_ := Aside0.mk (below_step (by repeat (first | (with_reducible first | exact HB.out | apply below_alloc | apply pw_below_drewN | apply below_drew1) | exact HB.out)) hb); clear HO_12; clear HL170_0; clear HR170_0; clear HB; have HO_12 := n0_; have HL170_0 := n1_; have HR170_0 := n2_; have HB := n3_; clear n0_ n1_ n2_ n3_; (try clear hb); (try clear hb2); (try clear hk); (try clear hi)))
                                      repeat (go_quiet (first | (go_at_call 16; (with_reducible refine (ages_Alive.calls k4 _ _ (rd_L1 x12_3 x24_4) (wrap64 (1 + (Int.tmod (wrap64 (a2)) 40))) t171 _ ?side1 ?side2 A78.out).mono ?_); (case side1 => repeat (first | exact (by repeat (first | (with_reducible exact HR170_0.out) | (with_reducible refine Kd.C_alloc ?_ _) | (with_reducible refine Kd.C_drewN ?_ _) | (with_reducible refine Kd.C_drew ?_) | exact HR170_0.out)) | (with_reducible refine Kd.C_alloc ?_ _) | (with_reducible refine Kd.C_drewN ?_ _) | (with_reducible refine Kd.C_drew ?_))); (case side2 => exact HC170_0.out); rintro e w84 ⟨rfl, hb⟩; have n0_ := Aside0.mk (Kd.N_below (by (with_reducible repeat (first | apply Kd.N_alloc | apply Kd.N_drewN | apply Kd.N_drew)); exact HO_12.out) hb); have n1_ := Aside0.mk (Kd.V_below (by (with_reducible repeat (first | apply Kd.V_alloc | apply Kd.V_drewN | apply Kd.V_drew)); exact HL170_0.out) hb); have n2_ := Aside0.mk (Kd.C_below (by repeat (first | (with_reducible exact HR170_0.out) | (with_reducible refine Kd.C_alloc ?_ _) | (with_reducible refine Kd.C_drewN ?_ _) | (with_reducible refine Kd.C_drew ?_) | exact HR170_0.out)) hb); have n3_ := Aside0.mk (below_step (by repeat (first | (with_reducible first | exact HB.out | apply below_alloc | apply pw_below_drewN | apply below_drew1) | exact HB.out)) hb); clear HO_12; clear HL170_0; clear HR170_0; clear HB; have HO_12 := n0_; have HL170_0 := n1_; have HR170_0 := n2_; have HB := n3_; clear n0_ n1_ n2_ n3_; (try clear hb); (try clear hb2); (try clear hk); (try clear hi))); try go_wp2_with (first | (go_at_call 16; (with_reducible refine (ages_Alive.calls k4 _ _ (rd_L1 x12_3 x24_4) (wrap64 (1 + (Int.tmod (wrap64 (a2)) 40))) t171 _ ?side1 ?side2 A78.out).mono ?_); (case side1 => repeat (first | exact (by repeat (first | (with_reducible exact HR170_0.out) | (with_reducible refine Kd.C_alloc ?_ _) | (with_reducible refine Kd.C_drewN ?_ _) | (with_reducible refine Kd.C_drew ?_) | exact HR170_0.out)) | (with_reducible refine Kd.C_alloc ?_ _) | (with_reducible refine Kd.C_drewN ?_ _) | (with_reducible refine Kd.C_drew ?_))); (case side2 => exact HC170_0.out); rintro e w84 ⟨rfl, hb⟩; have n0_ := Aside0.mk (Kd.N_below (by (with_reducible repeat (first | apply Kd.N_alloc | apply Kd.N_drewN | apply Kd.N_drew)); exact HO_12.out) hb); have n1_ := Aside0.mk (Kd.V_below (by (with_reducible repeat (first | apply Kd.V_alloc | apply Kd.V_drewN | apply Kd.V_drew)); exact HL170_0.out) hb); have n2_ := Aside0.mk (Kd.C_below (by repeat (first | (with_reducible exact HR170_0.out) | (with_reducible refine Kd.C_alloc ?_ _) | (with_reducible refine Kd.C_drewN ?_ _) | (with_reducible refine Kd.C_drew ?_) | exact HR170_0.out)) hb); have n3_ := Aside0.mk (below_step (by repeat (first | (with_reducible first | exact HB.out | apply below_alloc | apply pw_below_drewN | apply below_drew1) | exact HB.out)) hb); clear HO_12; clear HL170_0; clear HR170_0; clear HB; have HO_12 := n0_; have HL170_0 := n1_; have HR170_0 := n2_; have HB := n3_; clear n0_ n1_ n2_ n3_; (try clear hb); (try clear hb2); (try clear hk); (try clear hi))))
                                      go_ret
                                      exact ⟨by first | rfl | (simp [errW_none, errW_some] <;> rfl) | (simp only [← hji79, ← hji81]; first | rfl | (simp [errW_none, errW_some] <;> rfl)) | (simp [*, errW_none, errW_some] <;> rfl), by repeat (first | (with_reducible first | exact HB.out | apply below_alloc | apply pw_below_drewN | apply below_drew1) | exact HB.out)⟩
                                    · rw [if_neg c82] at H
                                      have c82b0 : ((Go.bits .and .i64 (ji81) 1) == 1) = false := beq_eq_false_iff_ne.mpr c82
                                      have c82b1 : ((Go.bits .and .i64 (ji81) 1) != 1) = true := bne_iff_ne.mpr c82
                                      have H' := Aside0.mk H
                                      clear H
                                      obtain ⟨Ao85, co85, eo85⟩ := Kd.N_slice HO_12.out
                                      subst eo85
                                      have p170 : 0 ≤ (x24_4 : Int) := of_decide_eq_true (by first | (with_reducible assumption) | assumption)
                                      have q170 : x24_4 < (x12_3.length : Int) := of_decide_eq_true (by first | (with_reducible assumption) | assumption)
                                      obtain ⟨ad170, A170_0, c170_0, e170, hx170_0, hl170_0, hi170_0⟩ := at_L1 (Kd.N_reads' HO_12.out).2.2 x24_4 p170 q170
                                      cases e170
                                      obtain ⟨ce170, hce170, hMe170, hcc170⟩ := Kd.N_get HO_12.out [] x24_4 p170 (by first | exact q170 | exact of_decide_eq_true (by first | (with_reducible assumption) | assumption) | (have e_ := (Kd.N_reads' HO_12.out).1; omega))
                                      obtain ⟨ua170_0, uc170_0, rfl, ul170_0, ge170_0⟩ := Kd.FK_slice_open hMe170
                                      have hv170_0 := hcc170 0 _ rfl
                                      rw [Nat.add_zero, show ((Kd.slice 3 (Kd.int .i64))).sz = 1 from rfl, Nat.mul_one] at hv170_0
                                      replace hv170_0 := Option.some.inj (hv170_0.symm.trans hx170_0)
                                      injection hv170_0 with hva_ hvn_ hvc_
                                      rw [hva_] at ge170_0
                                      rw [hvc_] at ul170_0
                                      have HL170_0 := Aside0.mk (show Kd.V (Kd.int .i64) 3 _ w.heap.size _ _ (rd_L1 x12_3 x24_4) from Kd.V_mk ul170_0 ge170_0)
                                      clear hva_ hvn_ hvc_ ge170_0 ul170_0
                                      clear hcc170 hce170
                                      have HR170_0 := Aside0.mk hi170_0
                                      have HC170_0 := Aside0.mk hl170_0
                                      clear hi170_0 hl170_0
                                      replace p170 := eq_true p170
                                      replace q170 := eq_true q170
                                      go_wp2_with (first | (go_at_call 16; (with_reducible refine (ages_Alive.calls k4 _ _ (rd_L1 x12_3 x24_4) (wrap64 (1 + (Int.tmod (wrap64 (a2)) 40))) t171 _ ?side1 ?side2 A78.out).mono ?_); (case side1 => repeat (first | exact (by repeat (first | (with_reducible exact HR170_0.out) | (with_reducible refine Kd.C_alloc ?_ _) | (with_reducible refine Kd.C_drewN ?_ _) | (with_reducible refine Kd.C_drew ?_) | exact HR170_0.out)) | (with_reducible refine Kd.C_alloc ?_ _) | (with_reducible refine Kd.C_drewN ?_ _) | (with_reducible refine Kd.C_drew ?_))); (case side2 => exact HC170_0.out); rintro e w86 ⟨rfl, hb⟩; have n0_ := Aside0.mk (Kd.N_below (by (with_reducible repeat (first | apply Kd.N_alloc | apply Kd.N_drewN | apply Kd.N_drew)); exact HO_12.out) hb); have n1_ := Aside0.mk (Kd.V_below (by (with_reducible repeat (first | apply Kd.V_alloc | apply Kd.V_drewN | apply Kd.V_drew)); exact HL170_0.out) hb); have n2_ := Aside0.mk (Kd.C_below (by repeat (first | (with_reducible exact HR170_0.out) | (with_reducible refine Kd.C_alloc ?_ _) | (with_reducible refine Kd.C_drewN ?_ _) | (with_reducible refine Kd.C_drew ?_) | exact HR170_0.out)) hb); have n3_ := Aside0.mk (below_step (by repeat (first | (with_reducible first | exact HB.out | apply below_alloc | apply pw_below_drewN | apply below_drew1) | exact HB.out)) hb); clear HO_12; clear HL170_0; clear HR170_0; clear HB; have HO_12 := n0_; have HL170_0 := n1_; have HR170_0 := n2_; have HB := n3_; clear n0_ n1_ n2_ n3_; (try clear hb); (try clear hb2); (try clear hk); (try clear hi)))
                                      repeat (go_quiet (first | (go_at_call 16; (with_reducible refine (ages_Alive.calls k4 _ _ (rd_L1 x12_3 x24_4) (wrap64 (1 + (Int.tmod (wrap64 (a2)) 40))) t171 _ ?side1 ?side2 A78.out).mono ?_); (case side1 => repeat (first | exact (by repeat (first | (with_reducible exact HR170_0.out) | (with_reducible refine Kd.C_alloc ?_ _) | (with_reducible refine Kd.C_drewN ?_ _) | (with_reducible refine Kd.C_drew ?_) | exact HR170_0.out)) | (with_reducible refine Kd.C_alloc ?_ _) | (with_reducible refine Kd.C_drewN ?_ _) | (with_reducible refine Kd.C_drew ?_))); (case side2 => exact HC170_0.out); rintro e w86 ⟨rfl, hb⟩; have n0_ := Aside0.mk (Kd.N_below (by (with_reducible repeat (first | apply Kd.N_alloc | apply Kd.N_drewN | apply Kd.N_drew)); exact HO_12.out) hb); have n1_ := Aside0.mk (Kd.V_below (by (with_reducible repeat (first | apply Kd.V_alloc | apply Kd.V_drewN | apply Kd.V_drew)); exact HL170_0.out) hb); have n2_ := Aside0.mk (Kd.C_below (by repeat (first | (with_reducible exact HR170_0.out) | (with_reducible refine Kd.C_alloc ?_ _) | (with_reducible refine Kd.C_drewN ?_ _) | (with_reducible refine Kd.C_drew ?_) | exact HR170_0.out)) hb); have n3_ := Aside0.mk (below_step (by repeat (first | (with_reducible first | exact HB.out | apply below_alloc | apply pw_below_drewN | apply below_drew1) | exact HB.out)) hb); clear HO_12; clear HL170_0; clear HR170_0; clear HB; have HO_12 := n0_; have HL170_0 := n1_; have HR170_0 := n2_; have HB := n3_; clear n0_ n1_ n2_ n3_; (try clear hb); (try clear hb2); (try clear hk); (try clear hi))); try go_wp2_with (first | (go_at_call 16; (with_reducible refine (ages_Alive.calls k4 _ _ (rd_L1 x12_3 x24_4) (wrap64 (1 + (Int.tmod (wrap64 (a2)) 40))) t171 _ ?side1 ?side2 A78.out).mono ?_); (case side1 => repeat (first | exact (by repeat (first | (with_reducible exact HR170_0.out) | (with_reducible refine Kd.C_alloc ?_ _) | (with_reducible refine Kd.C_drewN ?_ _) | (with_reducible refine Kd.C_drew ?_) | exact HR170_0.out)) | (with_reducible refine Kd.C_alloc ?_ _) | (with_reducible refine Kd.C_drewN ?_ _) | (with_reducible refine Kd.C_drew ?_))); (case side2 => exact HC170_0.out); rintro e w86 ⟨rfl, hb⟩; have n0_ := Aside0.mk (Kd.N_below (by (with_reducible repeat (first | apply Kd.N_alloc | apply Kd.N_drewN | apply Kd.N_drew)); exact HO_12.out) hb); have n1_ := Aside0.mk (Kd.V_below (by (with_reducible repeat (first | apply Kd.V_alloc | apply Kd.V_drewN | apply Kd.V_drew)); exact HL170_0.out) hb); have n2_ := Aside0.mk (Kd.C_below (by repeat (first | (with_reducible exact HR170_0.out) | (with_reducible refine Kd.C_alloc ?_ _) | (with_reducible refine Kd.C_drewN ?_ _) | (with_reducible refine Kd.C_drew ?_) | exact HR170_0.out)) hb); have n3_ := Aside0.mk (below_step (by repeat (first | (with_reducible first | exact HB.out | apply below_alloc | apply pw_below_drewN | apply below_drew1) | exact HB.out)) hb); clear HO_12; clear HL170_0; clear HR170_0; clear HB; have HO_12 := n0_; have HL170_0 := n1_; have HR170_0 := n2_; have HB := n3_; clear n0_ n1_ n2_ n3_; (try clear hb); (try clear hb2); (try clear hk); (try clear hi))))
                                      go_roundg k4
                                      case measure => have := HJ4.out; have := HK2.out; have := HK3.out; have := HK4.out; omega
                                      case rel => exact ⟨(wrap64 (x24_4 + 1)), (by first | rfl | (simp; done) | (simp [*]; done)), H', ⟨by have := HJ4.out; have := HK2.out; have := HK3.out; have := HK4.out; omega⟩, ⟨by (with_reducible repeat (first | apply Kd.N_alloc | apply Kd.N_drewN | apply Kd.N_drew)); exact HO_12.out⟩, ⟨by repeat (first | (with_reducible first | exact HB.out | apply below_alloc | apply pw_below_drewN | apply below_drew1) | exact HB.out)⟩⟩
                                  · rw [if_neg c80] at H
                                    exact absurd H (by simp)
                                · rw [if_neg c77] at H
                                  exact absurd H (by simp)
                              · rw [if_neg c76] at H
                                exact absurd H (by simp)
                          · rw [if_neg c74] at H
                            have c74b0 : decide (x24_4 < (l0.length : Int)) = false := decide_eq_false c74
                            clear c74
                            obtain rfl := Option.some.inj H
                            go_wp2
                            repeat (go_quiet (fail); try go_wp2)
                            go_ret
                            exact ⟨by first | rfl | (simp [errW_none, errW_some] <;> rfl) | (simp [*, errW_none, errW_some] <;> rfl), by repeat (first | (with_reducible first | exact HB.out | apply below_alloc | apply pw_below_drewN | apply below_drew1) | exact HB.out)⟩

end Go.Proofs.Ythkagdbabkkomaa.PAgesGone
