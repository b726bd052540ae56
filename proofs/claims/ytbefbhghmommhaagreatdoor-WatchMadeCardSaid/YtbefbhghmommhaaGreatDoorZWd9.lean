/- Texts of this claim, laid together by a program (wip/g/merge5.py): MWox64, MWox59, MWox84. -/
import Derived.Test.YtbefbhghmommhaaGreatDoorZWd4
import Derived.Test.YtbefbhghmommhaaGreatDoorZWd8
namespace Go.Proofs.YtbefbhghmommhaaGreatDoor.MWo
open Go.RowKit Go.Proofs.YtbefbhghmommhaaGreatDoorW.PrintWords Go.Proofs.YtbefbhghmommhaaGreatDoorW.PrintLast Go.Proofs.YtbefbhghmommhaaGreatDoorW.PrintMore
attribute [local go_sem] mp_u32s mp_u32m mp_u8s mp_u8m max2_int min2_int max_two min_two max_three min_three max_four min_four
set_option linter.unusedVariables false
set_option linter.unusedSimpArgs false
mutual
def dr10_Spread.j0 : Nat → List Int → Bool → Option (Int × Bool)
 | 0, _, _ => none
 | k + 1, x0, x14 => if x14 = true then (some (0, false)) else (if 0 < (x0.length : Int) then (dr10_Spread.l0 k x0 (rd x0 0) (rd x0 0) 0) else (none))
def dr10_Spread.l0 : Nat → List Int → Int → Int → Int → Option (Int × Bool)
 | 0, _, _, _, _ => none
 | k + 1, x0, x4, x5, x6 => if x6 < (x0.length : Int) then (if 0 ≤ x6 then (dr10_Spread.l0 k x0 (mn x4 (rd x0 x6)) (mx x5 (rd x0 x6)) (wrap64 (x6 + 1))) else (none)) else (some (wrap64 (x5 - x4), true))
end
def dr10_Spread.f (k : Nat) (l0 : List Int) : Option (Int × Bool) := if (l0.length : Int) = 0 then (dr10_Spread.j0 k l0 true) else ((dr10_times.f k l0).bind fun t227 => (dr10_Spread.j0 k l0 (!t227)))
set_option maxHeartbeats 8000000 in
set_option maxRecDepth 100000 in
theorem dr10_Spread.calls (k : Nat) (A0 : Option Addr) (c0 : Nat) (l0 : List Int) (r1 : Int) (r2 : Bool) (w : World) (hr0 : Kd.C (Kd.int .i64) w A0 l0.length l0) (hc0 : l0.length ≤ c0) (h : dr10_Spread.f k l0 = some (r1, r2)) :
  Calls Tryz.prog 35 #[.slice A0 l0.length c0] w fun e w' => e = .returned (.tuple #[.int .i64 r1, .bool r2]) ∧ Below w.heap.size w w' := by
 have HR0 := am hr0
 have HC0 := am hc0
 clear hr0 hc0
 have HB := am (Below.refl w.heap.size w)
 have H : (if (l0.length : Int) = 0 then (dr10_Spread.j0 k l0 true) else ((dr10_times.f k l0).bind fun t227 => (dr10_Spread.j0 k l0 (!t227)))) = some (r1, r2) := h
 clear h
 have HC2 := am H
 clear H
 go_enter Tryz.func35, Tryz.ntmps35
 go_upto_region 1 with (fail)
 repeat (go_quiet (fail); go_upto_region 1 with (fail))
 go_cut [14] (fun v14 wc => ∃ (kq : Nat) (x14_1 : Bool), v14 = .bool x14_1 ∧ Aside0 (dr10_Spread.j0 kq l0 x14_1 = some (r1, r2)) ∧ Aside0 (kq ≤ k) ∧ Aside0 (Below w.heap.size w wc))
 case first =>
  have H := HC2.out
  clear HC2
  by_cases c3 : (l0.length : Int) = 0
  ·rw [if_pos c3] at H
   have c3b0 : ((l0.length : Int) == 0) = true := beq_iff_eq.mpr c3
   have c3b1 : ((l0.length : Int) != 0) = false := bne_eq_false_iff_eq.mpr c3
   clear c3
   (first | rw [c3b0] | (simp only [i64_w, i32_w]; rw [c3b0]) | skip)
   have H' := am H
   clear H
   go_wp2
   repeat (go_quiet (fail); try go_wp2)
   go_meet
   case rel => exact ⟨_, (true), bx, H', ⟨by first | omega | exact Nat.le_refl _⟩, ⟨bl0⟩⟩
  ·rw [if_neg c3] at H
   have c3b0 : ((l0.length : Int) == 0) = false := beq_eq_false_iff_ne.mpr c3
   have c3b1 : ((l0.length : Int) != 0) = true := bne_iff_ne.mpr c3
   have c3b2 : ¬ (l0 = []) := fun h_ => c3 (by rw [h_]; rfl)
   (first | rw [c3b0] | (simp only [i64_w, i32_w]; rw [c3b0]) | skip)
   replace H := bS H
   obtain ⟨t227, A40, H⟩ := H
   replace H : (dr10_Spread.j0 k l0 (!t227)) = some (r1, r2) := H
   have A4 := am A40
   clear A40
   have H' := am H
   clear H
   go_wp2_with (first | (go_at_call 59; (with_reducible refine (dr10_times.calls k _ _ l0 t227 _ ?side1 ?side2 A4.out).mono ?_); (case side1 => exact kc HR0); (case side2 => exact HC0.out); rintro e w' ⟨rfl, ⟨nd, rfl⟩⟩; (try first | exact ⟨rfl, _, World.drewN_drewN _ _ _⟩ | exact ⟨rfl, _, Eq.trans (World.drewN_drewN _ _ _) (congrArg (World.drewN _) (Nat.add_assoc _ _ _))⟩)))
   repeat (go_quiet (first | (go_at_call 59; (with_reducible refine (dr10_times.calls k _ _ l0 t227 _ ?side1 ?side2 A4.out).mono ?_); (case side1 => exact kc HR0); (case side2 => exact HC0.out); rintro e w' ⟨rfl, ⟨nd, rfl⟩⟩; (try first | exact ⟨rfl, _, World.drewN_drewN _ _ _⟩ | exact ⟨rfl, _, Eq.trans (World.drewN_drewN _ _ _) (congrArg (World.drewN _) (Nat.add_assoc _ _ _))⟩))); try go_wp2_with (first | (go_at_call 59; (with_reducible refine (dr10_times.calls k _ _ l0 t227 _ ?side1 ?side2 A4.out).mono ?_); (case side1 => exact kc HR0); (case side2 => exact HC0.out); rintro e w' ⟨rfl, ⟨nd, rfl⟩⟩; (try first | exact ⟨rfl, _, World.drewN_drewN _ _ _⟩ | exact ⟨rfl, _, Eq.trans (World.drewN_drewN _ _ _) (congrArg (World.drewN _) (Nat.add_assoc _ _ _))⟩))))
   go_meet
   case rel => exact ⟨_, (!t227), bx, H', ⟨by first | omega | exact Nat.le_refl _⟩, ⟨bl0⟩⟩
 case rest =>
  clear HC2
  try clear p2
  try clear c3
  try clear c3b0
  try clear c3b1
  try clear c3b2
  obtain ⟨kq, x14_1, rfl, HA, HJ1, HB⟩ := hcut
  cases kq with
  | zero => exact absurd HA.out (by simp [dr10_Spread.j0])
  | succ kj1 =>
   have H := HA.out
   clear HA
   simp only [dr10_Spread.j0] at H
   by_cases c5 : x14_1 = true
   ·subst c5
    have H1 : (some (0, false)) = some (r1, r2) := by rw [if_pos rfl] at H; exact H
    clear H
    have H := H1
    clear H1
    simp only [Option.some.injEq, Prod.mk.injEq] at H
    obtain ⟨rfl, rfl⟩ := H
    go_wp2
    repeat (go_quiet (fail); try go_wp2)
    go_ret2
    exact ⟨ew, bl0⟩
   ·replace c5 := Bool.eq_false_iff.mpr c5
    subst c5
    have H1 : (if 0 < (l0.length : Int) then (dr10_Spread.l0 kj1 l0 (rd l0 0) (rd l0 0) 0) else (none)) = some (r1, r2) := by rw [if_neg (show ¬ (false = true) by decide)] at H; exact H
    clear H
    have H := H1
    clear H1
    by_cases c6 : 0 < (l0.length : Int)
    ·rw [if_pos c6] at H
     have c6b0 : decide (0 < (l0.length : Int)) = true := dT c6
     have c6b1 : decide (0 < l0.length) = true := dT (by omega)
     clear c6
     have H' := am H
     clear H
     have p228 : 0 ≤ (0 : Int) := (by omega)
     have q228 : 0 < (l0.length : Int) := oT asm
     obtain ⟨ad228, e228, hx228_0⟩ := Kd.at_int HR0.out 0 p228 q228
     cases e228
     have qi228 : (0 < l0.length) = True := eq_true (by omega)
     (try rw [show ((0 : Int)).toNat = 0 from rfl] at hx228_0)
     (try rw [Addr.add_zero'] at hx228_0)
     replace hx228_0 := hxk HB hx228_0
     replace p228 := eq_true p228
     replace q228 := eq_true q228
     have p229 : 0 ≤ (0 : Int) := (by omega)
     have q229 : 0 < (l0.length : Int) := oT asm
     obtain ⟨ad229, e229, hx229_0⟩ := Kd.at_int HR0.out 0 p229 q229
     obtain rfl : ad228 = ad229 := (by injection e229)
     have qi229 : (0 < l0.length) = True := eq_true (by omega)
     (try rw [show ((0 : Int)).toNat = 0 from rfl] at hx229_0)
     (try rw [Addr.add_zero'] at hx229_0)
     replace hx229_0 := hxk HB hx229_0
     replace p229 := eq_true p229
     replace q229 := eq_true q229
     go_wp2
     repeat (go_quiet (fail); try go_wp2)
     go_loopg [4, 5, 6] kj1 (fun kq v4 v5 v6 w' => ∃ (x4_2 : Int) (x5_2 : Int) (x6_2 : Int), v4 = .int .i64 x4_2 ∧ v5 = .int .i64 x5_2 ∧ v6 = .int .i64 x6_2 ∧ Aside0 (dr10_Spread.l0 kq l0 x4_2 x5_2 x6_2 = some (r1, r2)) ∧ Aside0 (kq ≤ kj1) ∧ Aside0 (Below w.heap.size w w'))
     case atStart => exact ⟨(rd l0 0), (rd l0 0), (0), bx, bx, bx, H', ⟨Nat.le_refl _⟩, ⟨bl0⟩⟩
     case round =>
      clear H'
      try clear p2
      try clear q2
      try clear hx2
      try clear qi2
      try clear c3
      try clear c3b0
      try clear c3b1
      try clear c3b2
      try clear c5
      try clear c6
      try clear c6b0
      try clear c6b1
      try clear hx228_0
      try clear hx229_0
      try clear p2
      try clear p228
      try clear p229
      try clear q228
      try clear q229
      obtain ⟨x4_2, x5_2, x6_2, rfl, rfl, rfl, HA, HK2, HB⟩ := hrel
      cases gk with
      | zero => exact absurd HA.out (by simp [dr10_Spread.l0])
      | succ k2 =>
       have H := HA.out
       clear HA
       simp only [dr10_Spread.l0] at H
       by_cases c7 : x6_2 < (l0.length : Int)
       ·rw [if_pos c7] at H
        have c7b0 : decide (x6_2 < (l0.length : Int)) = true := dT c7
        clear c7
        by_cases c8 : 0 ≤ x6_2
        ·rw [if_pos c8] at H
         have c8b0 : decide (0 ≤ x6_2) = true := dT c8
         clear c8
         obtain ⟨ji9, hji9⟩ : ∃ j_ : Int, (mn x4_2 (rd l0 x6_2)) = j_ := ⟨_, rfl⟩
         replace H : (dr10_Spread.l0 k2 l0 ji9 (mx x5_2 (rd l0 x6_2)) (wrap64 (x6_2 + 1))) = some (r1, r2) := by first | (rw [hji9] at H; exact H) | (simp only [hji9] at H ⊢; exact H)
         have hji9_ : (if (rd l0 x6_2) < x4_2 then (rd l0 x6_2) else x4_2) = ji9 := hji9
         obtain ⟨ji10, hji10⟩ : ∃ j_ : Int, (mx x5_2 (rd l0 x6_2)) = j_ := ⟨_, rfl⟩
         replace H : (dr10_Spread.l0 k2 l0 ji9 ji10 (wrap64 (x6_2 + 1))) = some (r1, r2) := by first | (rw [hji10] at H; exact H) | (simp only [hji10] at H ⊢; exact H)
         have hji10_ : (if x5_2 < (rd l0 x6_2) then (rd l0 x6_2) else x5_2) = ji10 := hji10
         have H' := am H
         clear H
         have p230 : 0 ≤ (x6_2 : Int) := oT asm
         have q230 : x6_2 < (l0.length : Int) := oT asm
         obtain ⟨ad230, e230, hx230_0⟩ := Kd.at_int HR0.out x6_2 p230 q230
         obtain rfl : ad228 = ad230 := (by injection e230)
         replace hx230_0 := hxk HB hx230_0
         replace p230 := eq_true p230
         replace q230 := eq_true q230
         have p231 : 0 ≤ (x6_2 : Int) := oT asm
         have q231 : x6_2 < (l0.length : Int) := oT asm
         obtain ⟨ad231, e231, hx231_0⟩ := Kd.at_int HR0.out x6_2 p231 q231
         obtain rfl : ad228 = ad231 := (by injection e231)
         replace hx231_0 := hxk HB hx231_0
         replace p231 := eq_true p231
         replace q231 := eq_true q231
         go_wp2
         repeat (go_quiet (fail); try go_wp2)
         go_roundg k2
         case measure => have := HJ1.out; have := HK2.out; omega
         case rel => exact ⟨(ji9), (ji10), (wrap64 (x6_2 + 1)), (by first | rfl | (simp; done) | (simp only [← hji9] <;> (first | rfl | simp)) | (simp [*]; done)), (by first | rfl | (simp; done) | (simp only [← hji10] <;> (first | rfl | simp)) | (simp [*]; done)), bx, H', ⟨by have := HJ1.out; have := HK2.out; omega⟩, ⟨bl0⟩⟩
        ·rw [if_neg c8] at H
         exact absurd H (by simp)
       ·rw [if_neg c7] at H
        have c7b0 : decide (x6_2 < (l0.length : Int)) = false := dF c7
        clear c7
        simp only [Option.some.injEq, Prod.mk.injEq] at H
        obtain ⟨rfl, rfl⟩ := H
        go_wp2
        repeat (go_quiet (fail); try go_wp2)
        go_ret2
        exact ⟨ew, bl0⟩
    ·rw [if_neg c6] at H
     exact absurd H (by simp)
def dr1_SameInts.l0 : Nat → List Int → List Int → Int → Option (Bool)
 | 0, _, _, _ => none
 | k + 1, x0, x1, x5 => if x5 < (x0.length : Int) then (if 0 ≤ x5 then (if x5 < (x1.length : Int) then (if (rd x0 x5) = (rd x1 x5) then (dr1_SameInts.l0 k x0 x1 (wrap64 (x5 + 1))) else (some false)) else (none)) else (none)) else (some true)
def dr1_SameInts.f (k : Nat) (l0 : List Int) (l1 : List Int) : Option (Bool) := if (l0.length : Int) = (l1.length : Int) then (dr1_SameInts.l0 k l0 l1 0) else (some false)
set_option maxHeartbeats 8000000 in
set_option maxRecDepth 100000 in
theorem dr1_SameInts.calls (k : Nat) (A0 : Option Addr) (c0 : Nat) (l0 : List Int) (A1 : Option Addr) (c1 : Nat) (l1 : List Int) (r : Bool) (w : World) (hr0 : Kd.C (Kd.int .i64) w A0 l0.length l0) (hc0 : l0.length ≤ c0) (hr1 : Kd.C (Kd.int .i64) w A1 l1.length l1) (hc1 : l1.length ≤ c1) (h : dr1_SameInts.f k l0 l1 = some r) :
  Calls Tryz.prog 50 #[.slice A0 l0.length c0, .slice A1 l1.length c1] w fun e w' => e = .returned (.bool r) ∧ Drawn0 w w' := by
 have HR0 := am hr0
 have HC0 := am hc0
 clear hr0 hc0
 have HR1 := am hr1
 have HC1 := am hc1
 clear hr1 hc1
 have H : (if (l0.length : Int) = (l1.length : Int) then (dr1_SameInts.l0 k l0 l1 0) else (some false)) = some r := h
 clear h
 by_cases c3 : (l0.length : Int) = (l1.length : Int)
 ·rw [if_pos c3] at H
  have c3b0 : ((l0.length : Int) == (l1.length : Int)) = true := beq_iff_eq.mpr c3
  have c3b1 : ((l0.length : Int) != (l1.length : Int)) = false := bne_eq_false_iff_eq.mpr c3
  have c3b2 : (l0.length == l1.length) = true := by first | simpa using c3 | (simp at c3 ⊢; omega)
  clear c3
  have H' := am H
  clear H
  go_enter Tryz.func50, Tryz.ntmps50
  go_wp2
  repeat (go_quiet (fail); try go_wp2)
  go_loopg [5] k (fun kq v5 w' => ∃ (x5_1 : Int), v5 = .int .i64 x5_1 ∧ Aside0 (dr1_SameInts.l0 kq l0 l1 x5_1 = some r) ∧ Aside0 (kq ≤ k) ∧ Drawn0 w w')
  case atStart => exact ⟨(0), bx, H', ⟨Nat.le_refl _⟩, dn⟩
  case round =>
   clear H'
   try clear c1
   try clear p2
   try clear c3
   try clear c3b0
   try clear c3b1
   try clear c3b2
   obtain ⟨x5_1, rfl, HA, HK1, ⟨m1, rfl⟩⟩ := hrel
   cases gk with
   | zero => exact absurd HA.out (by simp [dr1_SameInts.l0])
   | succ k1 =>
    have H := HA.out
    clear HA
    simp only [dr1_SameInts.l0] at H
    by_cases c4 : x5_1 < (l0.length : Int)
    ·rw [if_pos c4] at H
     have c4b0 : decide (x5_1 < (l0.length : Int)) = true := dT c4
     clear c4
     by_cases c5 : 0 ≤ x5_1
     ·rw [if_pos c5] at H
      have c5b0 : decide (0 ≤ x5_1) = true := dT c5
      clear c5
      by_cases c6 : x5_1 < (l1.length : Int)
      ·rw [if_pos c6] at H
       have c6b0 : decide (x5_1 < (l1.length : Int)) = true := dT c6
       clear c6
       by_cases c7 : (rd l0 x5_1) = (rd l1 x5_1)
       ·rw [if_pos c7] at H
        have c7b0 : ((rd l0 x5_1) == (rd l1 x5_1)) = true := beq_iff_eq.mpr c7
        have c7b1 : ((rd l0 x5_1) != (rd l1 x5_1)) = false := bne_eq_false_iff_eq.mpr c7
        clear c7
        have H' := am H
        clear H
        have p219 : 0 ≤ (x5_1 : Int) := oT asm
        have q219 : x5_1 < (l0.length : Int) := oT asm
        obtain ⟨ad219, e219, hx219_0⟩ := Kd.at_int HR0.out x5_1 p219 q219
        cases e219
        replace p219 := eq_true p219
        replace q219 := eq_true q219
        have p220 : 0 ≤ (x5_1 : Int) := oT asm
        have q220 : x5_1 < (l1.length : Int) := oT asm
        obtain ⟨ad220, e220, hx220_0⟩ := Kd.at_int HR1.out x5_1 p220 q220
        cases e220
        replace p220 := eq_true p220
        replace q220 := eq_true q220
        go_wp2
        repeat (go_quiet (fail); try go_wp2)
        go_roundg k1
        case measure => have := HK1.out; omega
        case rel => exact ⟨(wrap64 (x5_1 + 1)), bx, H', ⟨by have := HK1.out; omega⟩, dn⟩
       ·rw [if_neg c7] at H
        have c7b0 : ((rd l0 x5_1) == (rd l1 x5_1)) = false := beq_eq_false_iff_ne.mpr c7
        have c7b1 : ((rd l0 x5_1) != (rd l1 x5_1)) = true := bne_iff_ne.mpr c7
        obtain rfl := Option.some.inj H
        have p219 : 0 ≤ (x5_1 : Int) := oT asm
        have q219 : x5_1 < (l0.length : Int) := oT asm
        obtain ⟨ad219, e219, hx219_0⟩ := Kd.at_int HR0.out x5_1 p219 q219
        cases e219
        replace p219 := eq_true p219
        replace q219 := eq_true q219
        have p220 : 0 ≤ (x5_1 : Int) := oT asm
        have q220 : x5_1 < (l1.length : Int) := oT asm
        obtain ⟨ad220, e220, hx220_0⟩ := Kd.at_int HR1.out x5_1 p220 q220
        cases e220
        replace p220 := eq_true p220
        replace q220 := eq_true q220
        go_wp2
        repeat (go_quiet (fail); try go_wp2)
        go_ret
        exact ⟨sd, dn⟩
      ·rw [if_neg c6] at H
       exact absurd H (by simp)
     ·rw [if_neg c5] at H
      exact absurd H (by simp)
    ·rw [if_neg c4] at H
     have c4b0 : decide (x5_1 < (l0.length : Int)) = false := dF c4
     clear c4
     obtain rfl := Option.some.inj H
     go_wp2
     repeat (go_quiet (fail); try go_wp2)
     go_ret
     exact ⟨sd, dn⟩
 ·rw [if_neg c3] at H
  have c3b0 : ((l0.length : Int) == (l1.length : Int)) = false := beq_eq_false_iff_ne.mpr c3
  have c3b1 : ((l0.length : Int) != (l1.length : Int)) = true := bne_iff_ne.mpr c3
  have c3b2 : (l0.length == l1.length) = false := by first | simpa using c3 | (simp at c3 ⊢; omega)
  obtain rfl := Option.some.inj H
  go_enter Tryz.func50, Tryz.ntmps50
  go_wp2
  repeat (go_quiet (fail); try go_wp2)
  go_ret
  exact ⟨sd, dn⟩
end Go.Proofs.YtbefbhghmommhaaGreatDoor.MWo

