/- Texts of this claim, laid together by a program (wip/e/merge2.py): MFrx61, MFrx62, MFrx63, HRma, HRm1, HRm2, HRm3, HRm4, HRm5, HRm, MFrx10. -/
import Derived.Test.YtaaifdclojkdmaaDoorZFr2
import Derived.Test.YtaaifdclojkdmaaDoorZFr6
import Derived.Test.YtaaifdclojkdmaaDoorZFr7
import Derived.Test.YtaaifdclojkdmaaDoorZFr8
import Derived.Deep.RegionWith
import Derived.Deep.QuietTactic
import Derived.BigQuiet
namespace Go.Proofs.YtaaifdclojkdmaaDoor.MFr
open Go.RowKit Go.Proofs.YtaaifdclojkdmaaDoorW.PrintWords Go.Proofs.YtaaifdclojkdmaaDoorW.PrintLast Go.Proofs.YtaaifdclojkdmaaDoorW.PrintMore
attribute [local go_sem] mp_u32s mp_u32m mp_u8s mp_u8m max2_int min2_int max_two min_two max_three min_three max_four min_four
set_option linter.unusedVariables false
set_option linter.unusedSimpArgs false
mutual
def drumlineref1_ages.j0 : Nat → List Int → Bool → Option (Bool)
 | 0, _, _ => none
 | k + 1, x0, x11 => if x11 = true then (some false) else (drumlineref1_ages.l0 k x0 0)
def drumlineref1_ages.l0 : Nat → List Int → Int → Option (Bool)
 | 0, _, _ => none
 | k + 1, x0, x3 => if x3 < (x0.length : Int) then (if 0 ≤ x3 then (if (rd x0 x3) < 0 then (some false) else (if (rd x0 x3) > 201 then (some false) else (drumlineref1_ages.l0 k x0 (wrap64 (x3 + 1))))) else (none)) else (some true)
end
def drumlineref1_ages.f (k : Nat) (l0 : List Int) : Option (Bool) := if (l0.length : Int) < 1 then (drumlineref1_ages.j0 k l0 true) else (drumlineref1_ages.j0 k l0 (decide ((l0.length : Int) > 6)))
theorem drumlineref1_ages.mono_l : ∀ k, (∀ y0 y1, LeO (drumlineref1_ages.j0 k y0 y1) (drumlineref1_ages.j0 (k + 1) y0 y1)) ∧ (∀ y0 y1, LeO (drumlineref1_ages.l0 k y0 y1) (drumlineref1_ages.l0 (k + 1) y0 y1))
 | 0 => ⟨fun _ _ r h => by simp [drumlineref1_ages.j0] at h, fun _ _ r h => by simp [drumlineref1_ages.l0] at h⟩
 | k + 1 => by
  obtain ⟨ih0, ih1⟩ := drumlineref1_ages.mono_l k
  refine ⟨?_, ?_⟩
  ·intro y0 y1
   unfold drumlineref1_ages.j0
   repeat' first
   | (with_reducible exact ih0 _ _)
   | (with_reducible exact ih1 _ _)
   | (with_reducible exact LeO.refl _)
   | (with_reducible exact LeO.none _)
   | (with_reducible refine LeO.ite ?_ ?_)
   | (with_reducible refine LeO.bind ?_ (fun _ => ?_))
   | exact ih0 _ _
   | exact ih1 _ _
   | exact LeO.none _
   | refine LeO.ite ?_ ?_
   | refine LeO.bind ?_ (fun _ => ?_)
  ·intro y0 y1
   unfold drumlineref1_ages.l0
   repeat' first
   | (with_reducible exact ih0 _ _)
   | (with_reducible exact ih1 _ _)
   | (with_reducible exact LeO.refl _)
   | (with_reducible exact LeO.none _)
   | (with_reducible refine LeO.ite ?_ ?_)
   | (with_reducible refine LeO.bind ?_ (fun _ => ?_))
   | exact ih0 _ _
   | exact ih1 _ _
   | exact LeO.none _
   | refine LeO.ite ?_ ?_
   | refine LeO.bind ?_ (fun _ => ?_)
theorem drumlineref1_ages.mono : ∀ a0 k, LeO (drumlineref1_ages.f k a0) (drumlineref1_ages.f (k + 1) a0) := by
 intro a0 k
 obtain ⟨ih0, ih1⟩ := drumlineref1_ages.mono_l k
 unfold drumlineref1_ages.f
 repeat' first
   | (with_reducible exact ih0 _ _)
   | (with_reducible exact ih1 _ _)
   | (with_reducible exact LeO.refl _)
   | (with_reducible exact LeO.none _)
   | (with_reducible refine LeO.ite ?_ ?_)
   | (with_reducible refine LeO.bind ?_ (fun _ => ?_))
   | exact ih0 _ _
   | exact ih1 _ _
   | exact LeO.none _
   | refine LeO.ite ?_ ?_
   | refine LeO.bind ?_ (fun _ => ?_)
set_option maxHeartbeats 8000000 in
set_option maxRecDepth 100000 in
theorem drumlineref1_ages.calls (k : Nat) (A0 : Option Addr) (c0 : Nat) (l0 : List Int) (r : Bool) (w : World) (hr0 : Kd.C (Kd.int .i64) w A0 l0.length l0) (hc0 : l0.length ≤ c0) (h : drumlineref1_ages.f k l0 = some r) :
  Calls Tryd.prog 34 #[.slice A0 l0.length c0] w fun e w' => e = .returned (.bool r) ∧ Drawn0 w w' := by
 have HR0 := Aside0.mk hr0
 have HC0 := Aside0.mk hc0
 clear hr0 hc0
 have H : (if (l0.length : Int) < 1 then (drumlineref1_ages.j0 k l0 true) else (drumlineref1_ages.j0 k l0 (decide ((l0.length : Int) > 6)))) = some r := h
 clear h
 have HC2 := Aside0.mk H
 clear H
 go_enter Tryd.func34, Tryd.ntmps34
 go_upto_region 1 with (fail)
 go_cut [11] (fun v11 wc => ∃ (kq : Nat) (x11_1 : Bool), v11 = .bool x11_1 ∧ Aside0 (drumlineref1_ages.j0 kq l0 x11_1 = some r) ∧ Aside0 (kq ≤ k) ∧ Drawn0 w wc)
 case first =>
  have H := HC2.out
  clear HC2
  by_cases c3 : (l0.length : Int) < 1
  ·rw [if_pos c3] at H
   have c3b0 : decide ((l0.length : Int) < 1) = true := decide_eq_true c3
   have c3b1 : decide (l0.length < 1) = true := decide_eq_true (by omega)
   clear c3
   (first | rw [c3b0] | (simp only [i64_w, i32_w]; rw [c3b0]) | skip)
   have H' := Aside0.mk H
   clear H
   go_wp2
   go_meet
   case rel => exact ⟨_, (true), (by first | rfl | (simp; done) | (simp [*]; done)), H', ⟨by first | omega | exact Nat.le_refl _⟩, by repeat (first | exact Drawn0.refl _ | apply Drawn0.step)⟩
  ·rw [if_neg c3] at H
   have c3b0 : decide ((l0.length : Int) < 1) = false := decide_eq_false c3
   have c3b1 : decide (l0.length < 1) = false := decide_eq_false (by omega)
   clear c3
   (first | rw [c3b0] | (simp only [i64_w, i32_w]; rw [c3b0]) | skip)
   have H' := Aside0.mk H
   clear H
   go_wp2
   go_meet
   case rel => exact ⟨_, (decide ((l0.length : Int) > 6)), (by first | rfl | (simp; done) | (simp [*]; done)), H', ⟨by first | omega | exact Nat.le_refl _⟩, by repeat (first | exact Drawn0.refl _ | apply Drawn0.step)⟩
 case rest =>
  clear HC2
  try clear p2
  try clear c3
  try clear c3b0
  try clear c3b1
  obtain ⟨kq, x11_1, rfl, HA, HJ1, ⟨mc1, rfl⟩⟩ := hcut
  cases kq with
  | zero => exact absurd HA.out (by simp [drumlineref1_ages.j0])
  | succ kj1 =>
   have H := HA.out
   clear HA
   simp only [drumlineref1_ages.j0] at H
   by_cases c4 : x11_1 = true
   ·subst c4
    have H1 : (some false) = some r := by rw [if_pos rfl] at H; exact H
    clear H
    have H := H1
    clear H1
    obtain rfl := Option.some.inj H
    go_wp2
    go_ret
    exact ⟨by first | rfl | (simp; done) | (simp [*]; done), by repeat (first | exact Drawn0.refl _ | apply Drawn0.step)⟩
   ·replace c4 := Bool.eq_false_iff.mpr c4
    subst c4
    have H1 : (drumlineref1_ages.l0 kj1 l0 0) = some r := by rw [if_neg (show ¬ (false = true) by decide)] at H; exact H
    clear H
    have H := H1
    clear H1
    have H' := Aside0.mk H
    clear H
    go_wp2
    go_loopg [3] kj1 (fun kq v3 w' => ∃ (x3_2 : Int), v3 = .int .i64 x3_2 ∧ Aside0 (drumlineref1_ages.l0 kq l0 x3_2 = some r) ∧ Aside0 (kq ≤ kj1) ∧ Drawn0 w w')
    case atStart => exact ⟨(0), (by first | rfl | (simp; done) | (simp [*]; done)), H', ⟨Nat.le_refl _⟩, by repeat (first | exact Drawn0.refl _ | apply Drawn0.step)⟩
    case round =>
     clear H'
     try clear c1
     try clear p2
     try clear c3
     try clear c3b0
     try clear c3b1
     try clear c4
     try clear p2
     obtain ⟨x3_2, rfl, HA, HK2, ⟨m2, rfl⟩⟩ := hrel
     cases gk with
     | zero => exact absurd HA.out (by simp [drumlineref1_ages.l0])
     | succ k2 =>
      have H := HA.out
      clear HA
      simp only [drumlineref1_ages.l0] at H
      by_cases c5 : x3_2 < (l0.length : Int)
      ·rw [if_pos c5] at H
       have c5b0 : decide (x3_2 < (l0.length : Int)) = true := decide_eq_true c5
       clear c5
       by_cases c6 : 0 ≤ x3_2
       ·rw [if_pos c6] at H
        have c6b0 : decide (0 ≤ x3_2) = true := decide_eq_true c6
        clear c6
        by_cases c7 : (rd l0 x3_2) < 0
        ·rw [if_pos c7] at H
         have c7b0 : decide ((rd l0 x3_2) < 0) = true := decide_eq_true c7
         clear c7
         obtain rfl := Option.some.inj H
         have p212 : 0 ≤ (x3_2 : Int) := of_decide_eq_true (by first | (with_reducible assumption) | assumption)
         have q212 : x3_2 < (l0.length : Int) := of_decide_eq_true (by first | (with_reducible assumption) | assumption)
         obtain ⟨ad212, e212, hx212_0⟩ := Kd.at_int HR0.out x3_2 p212 q212
         cases e212
         replace p212 := eq_true p212
         replace q212 := eq_true q212
         go_wp2
         go_ret
         exact ⟨by first | rfl | (simp; done) | (simp [*]; done), by repeat (first | exact Drawn0.refl _ | apply Drawn0.step)⟩
        ·rw [if_neg c7] at H
         have c7b0 : decide ((rd l0 x3_2) < 0) = false := decide_eq_false c7
         clear c7
         by_cases c8 : (rd l0 x3_2) > 201
         ·rw [if_pos c8] at H
          have c8b0 : decide (201 < (rd l0 x3_2)) = true := decide_eq_true c8
          clear c8
          obtain rfl := Option.some.inj H
          have p212 : 0 ≤ (x3_2 : Int) := of_decide_eq_true (by first | (with_reducible assumption) | assumption)
          have q212 : x3_2 < (l0.length : Int) := of_decide_eq_true (by first | (with_reducible assumption) | assumption)
          obtain ⟨ad212, e212, hx212_0⟩ := Kd.at_int HR0.out x3_2 p212 q212
          cases e212
          replace p212 := eq_true p212
          replace q212 := eq_true q212
          have p213 : 0 ≤ (x3_2 : Int) := of_decide_eq_true (by first | (with_reducible assumption) | assumption)
          have q213 : x3_2 < (l0.length : Int) := of_decide_eq_true (by first | (with_reducible assumption) | assumption)
          obtain ⟨ad213, e213, hx213_0⟩ := Kd.at_int HR0.out x3_2 p213 q213
          obtain rfl : ad212 = ad213 := (by injection e213)
          replace p213 := eq_true p213
          replace q213 := eq_true q213
          go_wp2
          go_ret
          exact ⟨by first | rfl | (simp; done) | (simp [*]; done), by repeat (first | exact Drawn0.refl _ | apply Drawn0.step)⟩
         ·rw [if_neg c8] at H
          have c8b0 : decide (201 < (rd l0 x3_2)) = false := decide_eq_false c8
          clear c8
          have H' := Aside0.mk H
          clear H
          have p212 : 0 ≤ (x3_2 : Int) := of_decide_eq_true (by first | (with_reducible assumption) | assumption)
          have q212 : x3_2 < (l0.length : Int) := of_decide_eq_true (by first | (with_reducible assumption) | assumption)
          obtain ⟨ad212, e212, hx212_0⟩ := Kd.at_int HR0.out x3_2 p212 q212
          cases e212
          replace p212 := eq_true p212
          replace q212 := eq_true q212
          have p213 : 0 ≤ (x3_2 : Int) := of_decide_eq_true (by first | (with_reducible assumption) | assumption)
          have q213 : x3_2 < (l0.length : Int) := of_decide_eq_true (by first | (with_reducible assumption) | assumption)
          obtain ⟨ad213, e213, hx213_0⟩ := Kd.at_int HR0.out x3_2 p213 q213
          obtain rfl : ad212 = ad213 := (by injection e213)
          replace p213 := eq_true p213
          replace q213 := eq_true q213
          go_wp2
          go_roundg k2
          case measure => have := HJ1.out; have := HK2.out; omega
          case rel => exact ⟨(wrap64 (x3_2 + 1)), (by first | rfl | (simp; done) | (simp [*]; done)), H', ⟨by have := HJ1.out; have := HK2.out; omega⟩, by repeat (first | exact Drawn0.refl _ | apply Drawn0.step)⟩
       ·rw [if_neg c6] at H
        exact absurd H (by simp)
      ·rw [if_neg c5] at H
       have c5b0 : decide (x3_2 < (l0.length : Int)) = false := decide_eq_false c5
       clear c5
       obtain rfl := Option.some.inj H
       go_wp2
       go_ret
       exact ⟨by first | rfl | (simp; done) | (simp [*]; done), by repeat (first | exact Drawn0.refl _ | apply Drawn0.step)⟩
def drumlineref1_within.f (a0 : Int) (a1 : Int) (a2 : Int) : Option (Bool) := if a0 ≥ a1 then (some (decide (a0 ≤ a2))) else (some false)
set_option maxHeartbeats 8000000 in
set_option maxRecDepth 100000 in
theorem drumlineref1_within.calls (a0 : Int) (a1 : Int) (a2 : Int) (r : Bool) (w : World) (h : drumlineref1_within.f a0 a1 a2 = some r) :
  Calls Tryd.prog 35 #[.int .i64 a0, .int .i64 a1, .int .i64 a2] w fun e w' => e = .returned (.bool r) ∧ Drawn0 w w' := by
 have H : (if a0 ≥ a1 then (some (decide (a0 ≤ a2))) else (some false)) = some r := h
 clear h
 by_cases c4 : a0 ≥ a1
 ·rw [if_pos c4] at H
  have c4b0 : decide (a1 ≤ a0) = true := decide_eq_true c4
  clear c4
  obtain rfl := Option.some.inj H
  go_enter Tryd.func35, Tryd.ntmps35
  go_wp2
  go_ret
  exact ⟨by first | rfl | (simp; done) | (simp [*]; done), by repeat (first | exact Drawn0.refl _ | apply Drawn0.step)⟩
 ·rw [if_neg c4] at H
  have c4b0 : decide (a1 ≤ a0) = false := decide_eq_false c4
  clear c4
  obtain rfl := Option.some.inj H
  go_enter Tryd.func35, Tryd.ntmps35
  go_wp2
  go_ret
  exact ⟨by first | rfl | (simp; done) | (simp [*]; done), by repeat (first | exact Drawn0.refl _ | apply Drawn0.step)⟩
def drumlineref1_Time.f (a0 : Int) : Option (Bool) := if a0 ≥ (-1099511627776) then (some (decide (a0 ≤ 1099511627776))) else (some false)
set_option maxHeartbeats 8000000 in
set_option maxRecDepth 100000 in
theorem drumlineref1_Time.calls (a0 : Int) (r : Bool) (w : World) (h : drumlineref1_Time.f a0 = some r) :
  Calls Tryd.prog 36 #[.int .i64 a0] w fun e w' => e = .returned (.bool r) ∧ Drawn0 w w' := by
 have H : (if a0 ≥ (-1099511627776) then (some (decide (a0 ≤ 1099511627776))) else (some false)) = some r := h
 clear h
 by_cases c2 : a0 ≥ (-1099511627776)
 ·rw [if_pos c2] at H
  have c2b0 : decide ((-1099511627776) ≤ a0) = true := decide_eq_true c2
  clear c2
  obtain rfl := Option.some.inj H
  go_enter Tryd.func36, Tryd.ntmps36
  go_wp2
  go_ret
  exact ⟨by first | rfl | (simp; done) | (simp [*]; done), by repeat (first | exact Drawn0.refl _ | apply Drawn0.step)⟩
 ·rw [if_neg c2] at H
  have c2b0 : decide ((-1099511627776) ≤ a0) = false := decide_eq_false c2
  clear c2
  obtain rfl := Option.some.inj H
  go_enter Tryd.func36, Tryd.ntmps36
  go_wp2
  go_ret
  exact ⟨by first | rfl | (simp; done) | (simp [*]; done), by repeat (first | exact Drawn0.refl _ | apply Drawn0.step)⟩
end Go.Proofs.YtaaifdclojkdmaaDoor.MFr
set_option linter.unusedVariables false
set_option linter.unusedSimpArgs false
set_option maxRecDepth 100000
namespace Go.Proofs.YtaaifdclojkdmaaDoor.MFr
open Go.RowKit Go.Proofs.YtaaifdclojkdmaaDoorW.PrintWords Go.Proofs.YtaaifdclojkdmaaDoorW.PrintLast Go.Proofs.YtaaifdclojkdmaaDoorW.PrintMore
theorem rinr_is (n lo hi : Int) : drumlineref1_within.f n lo hi = some (inr n lo hi) := by
 unfold drumlineref1_within.f inr
 by_cases h1 : n ≥ lo
 ·rw [if_pos h1]; simp [show lo ≤ n from h1]
 ·rw [if_neg h1]; simp [show ¬ lo ≤ n from h1]
theorem rtime_is (n : Int) : drumlineref1_Time.f n = some (inr n (-1099511627776) 1099511627776) := by
 unfold drumlineref1_Time.f inr
 by_cases h1 : n ≥ -1099511627776
 ·rw [if_pos h1]; simp [show -1099511627776 ≤ n from h1]
 ·rw [if_neg h1]; simp [show ¬ -1099511627776 ≤ n from h1]
def restB (wt mk lk cy of_ f1 f2 : Int) (bd : List Int) : Bool :=
 inr wt 0 60000 && (idx mk 4096 && (idx lk 10 && (inr cy 0 1099511627776 && (inr of_ (-1099511627776) 1099511627776 && (idx f1 6 && (idx f2 6 && decide ((bd.length : Int) ≤ 24)))))))
set_option maxHeartbeats 8000000 in
theorem rmay_out (k : Int) (p n wt mk lk : Int) (fl : Bool) (cy of_ : Int) (A9 : Option Addr) (c9 : Nat) (ag : List Int) (f1 f2 sq : Int) (A13 : Option Addr) (c13 : Nat) (bd : List Int) (w : World) (h : k < 1 ∨ 5 < k ∨ p < 0 ∨ 6 ≤ p ∨ n < 0 ∨ 12 ≤ n) :
  Calls Tryd.prog 13 #[.agg #[.int .i64 k, .int .i64 p, .int .i64 n, .int .i64 wt, .int .i64 mk, .int .i64 lk, .bool fl, .int .i64 cy, .int .i64 of_, .slice A9 ag.length c9, .int .i64 f1, .int .i64 f2, .int .i64 sq, .slice A13 bd.length c13]] w fun e w' => e = .returned (.bool false) ∧ Below w.heap.size w w' := by
 by_cases g0 : k < 1
 ·have c0 : decide (k < 1) = true := decide_eq_true g0
  clear h g0
  go_enter Tryd.func13, Tryd.ntmps13
  go_wp2
  go_quiet (fail)
  go_wp2
  go_ret
  exact ⟨rfl, by repeat (first | exact Below.refl _ _ | apply below_alloc | apply pw_below_drewN | apply below_drew1)⟩
 have c0 : decide (k < 1) = false := decide_eq_false g0
 by_cases g1 : 5 < k
 ·have c1 : decide (5 < k) = true := decide_eq_true g1
  clear h g1
  go_enter Tryd.func13, Tryd.ntmps13
  go_wp2
  go_quiet (fail)
  go_wp2
  go_ret
  exact ⟨rfl, by repeat (first | exact Below.refl _ _ | apply below_alloc | apply pw_below_drewN | apply below_drew1)⟩
 have c1 : decide (5 < k) = false := decide_eq_false g1
 by_cases g2 : p < 0
 ·have c2 : decide (p < 0) = true := decide_eq_true g2
  clear h g2
  go_enter Tryd.func13, Tryd.ntmps13
  go_wp2
  go_quiet (fail)
  go_wp2
  go_ret
  exact ⟨rfl, by repeat (first | exact Below.refl _ _ | apply below_alloc | apply pw_below_drewN | apply below_drew1)⟩
 have c2 : decide (p < 0) = false := decide_eq_false g2
 by_cases g3 : 6 ≤ p
 ·have c3 : decide (6 ≤ p) = true := decide_eq_true g3
  clear h g3
  go_enter Tryd.func13, Tryd.ntmps13
  go_wp2
  go_quiet (fail)
  go_wp2
  go_ret
  exact ⟨rfl, by repeat (first | exact Below.refl _ _ | apply below_alloc | apply pw_below_drewN | apply below_drew1)⟩
 have c3 : decide (6 ≤ p) = false := decide_eq_false g3
 by_cases g4 : n < 0
 ·have c4 : decide (n < 0) = true := decide_eq_true g4
  clear h g4
  go_enter Tryd.func13, Tryd.ntmps13
  go_wp2
  go_quiet (fail)
  go_wp2
  go_ret
  exact ⟨rfl, by repeat (first | exact Below.refl _ _ | apply below_alloc | apply pw_below_drewN | apply below_drew1)⟩
 have c4 : decide (n < 0) = false := decide_eq_false g4
 have c5 : decide (12 ≤ n) = true := decide_eq_true (by omega)
 clear h
 go_enter Tryd.func13, Tryd.ntmps13
 go_wp2
 go_quiet (fail)
 go_wp2
 go_ret
 exact ⟨rfl, by repeat (first | exact Below.refl _ _ | apply below_alloc | apply pw_below_drewN | apply below_drew1)⟩
end Go.Proofs.YtaaifdclojkdmaaDoor.MFr
set_option linter.unusedVariables false
set_option linter.unusedSimpArgs false
set_option maxRecDepth 100000
namespace Go.Proofs.YtaaifdclojkdmaaDoor.MFr
open Go.RowKit Go.Proofs.YtaaifdclojkdmaaDoorW.PrintWords Go.Proofs.YtaaifdclojkdmaaDoorW.PrintLast Go.Proofs.YtaaifdclojkdmaaDoorW.PrintMore
set_option maxHeartbeats 16000000 in
theorem rmay1 (kf : Nat) (p n wt mk lk : Int) (fl : Bool) (cy of_ : Int) (A9 : Option Addr) (c9 : Nat) (ag : List Int) (f1 f2 sq : Int) (A13 : Option Addr) (c13 : Nat) (bd : List Int) (s : Bool) (w : World) (h9 : Kd.C (Kd.int .i64) w A9 ag.length ag) (q9 : ag.length ≤ c9) (h13 : Kd.C (Kd.int .u8) w A13 bd.length bd) (q13 : bd.length ≤ c13) (hp : 0 ≤ p ∧ p < 6) (hn : 0 ≤ n ∧ n < 12) (hS : drumlineref1_Same.f kf 1 p n wt mk lk fl cy of_ ag f1 f2 sq bd 1 p n wt 0 0 false 0 0 [] 0 0 0 [] = some s) :
  Calls Tryd.prog 13 #[.agg #[.int .i64 1, .int .i64 p, .int .i64 n, .int .i64 wt, .int .i64 mk, .int .i64 lk, .bool fl, .int .i64 cy, .int .i64 of_, .slice A9 ag.length c9, .int .i64 f1, .int .i64 f2, .int .i64 sq, .slice A13 bd.length c13]] w fun e w' => e = .returned (.bool (s && (restB wt mk lk cy of_ f1 f2 bd))) ∧ Below w.heap.size w w' := by
 have H9 := Aside0.mk h9
 have H13 := Aside0.mk h13
 have Q9 := Aside0.mk q9
 have Q13 := Aside0.mk q13
 have HS := Aside0.mk hS
 have c0 : decide (p < 0) = false := decide_eq_false (by omega)
 have c1 : decide (6 ≤ p) = false := decide_eq_false (by omega)
 have c2 : decide (n < 0) = false := decide_eq_false (by omega)
 have c3 : decide (12 ≤ n) = false := decide_eq_false (by omega)
 clear h9 h13 q9 q13 hS hp hn
 go_enter Tryd.func13, Tryd.ntmps13
 go_wp2_with fail
 have HB2 := Aside0.mk (below_alloc (Below.refl w.heap.size w) (.cells #[.int .i64 1, .int .i64 p, .int .i64 n, .int .i64 wt, .int .i64 mk, .int .i64 lk, .bool fl, .int .i64 cy, .int .i64 of_, .slice A9 ag.length c9, .int .i64 f1, .int .i64 f2, .int .i64 sq, .slice A13 bd.length c13] 25))
 have HP2 : Aside0 ((w.alloc (.cells #[.int .i64 1, .int .i64 p, .int .i64 n, .int .i64 wt, .int .i64 mk, .int .i64 lk, .bool fl, .int .i64 cy, .int .i64 of_, .slice A9 ag.length c9, .int .i64 f1, .int .i64 f2, .int .i64 sq, .slice A13 bd.length c13] 25)).heap[w.heap.size]? = some (.cells #[.int .i64 1, .int .i64 p, .int .i64 n, .int .i64 wt, .int .i64 mk, .int .i64 lk, .bool fl, .int .i64 cy, .int .i64 of_, .slice A9 ag.length c9, .int .i64 f1, .int .i64 f2, .int .i64 sq, .slice A13 bd.length c13] 25 (0, 0))) := ⟨heap_alloc_new _ _⟩
 generalize w.alloc (.cells #[.int .i64 1, .int .i64 p, .int .i64 n, .int .i64 wt, .int .i64 mk, .int .i64 lk, .bool fl, .int .i64 cy, .int .i64 of_, .slice A9 ag.length c9, .int .i64 f1, .int .i64 f2, .int .i64 sq, .slice A13 bd.length c13] 25) = w2 at *
 obtain ⟨b1, hb1⟩ : ∃ b1, b1 = w.heap.size := ⟨_, rfl⟩
 rw [← hb1] at HP2
 rw [← hb1]
 have HB1 := Aside0.mk hb1
 clear hb1
 obtain ⟨x0, x1, x2, x3, x4, x5, x6, x7, x8, x9, x10, x11, x12, x13⟩ := cellsK14 HP2.out
 go_region_with (first | (go_at_call 33; refine (spare1 p n wt mk lk fl cy of_ f1 f2 sq A9 ag.length c9 A13 bd.length c13 _).mono ?_; rintro e w3 ⟨rfl, hb⟩; have kf3 := HP2; have u_ := hb; have HBs := Aside0.mk (HB2.out.trans ((drew_below hb).mono HB2.out.size)); have HPs := Aside0.mk (((drew_below hb).block b1 (blk_lt HP2.out)).trans HP2.out); clear hb u_ kf3; have u0 : w3.cell? ⟨b1, 0, none⟩ = some (.int .i64 1) := (blk_cell HPs.out 0).trans rfl; have u1 : w3.cell? ⟨b1, 1, none⟩ = some (.int .i64 p) := (blk_cell HPs.out 1).trans rfl; have u2 : w3.cell? ⟨b1, 2, none⟩ = some (.int .i64 n) := (blk_cell HPs.out 2).trans rfl; have u3 : w3.cell? ⟨b1, 3, none⟩ = some (.int .i64 wt) := (blk_cell HPs.out 3).trans rfl; have u4 : w3.cell? ⟨b1, 4, none⟩ = some (.int .i64 mk) := (blk_cell HPs.out 4).trans rfl; have u5 : w3.cell? ⟨b1, 5, none⟩ = some (.int .i64 lk) := (blk_cell HPs.out 5).trans rfl; have u6 : w3.cell? ⟨b1, 6, none⟩ = some (.bool fl) := (blk_cell HPs.out 6).trans rfl; have u7 : w3.cell? ⟨b1, 7, none⟩ = some (.int .i64 cy) := (blk_cell HPs.out 7).trans rfl; have u8 : w3.cell? ⟨b1, 8, none⟩ = some (.int .i64 of_) := (blk_cell HPs.out 8).trans rfl; have u9 : w3.cell? ⟨b1, 9, none⟩ = some (.slice A9 ag.length c9) := (blk_cell HPs.out 9).trans rfl; have u10 : w3.cell? ⟨b1, 10, none⟩ = some (.int .i64 f1) := (blk_cell HPs.out 10).trans rfl; have u11 : w3.cell? ⟨b1, 11, none⟩ = some (.int .i64 f2) := (blk_cell HPs.out 11).trans rfl; have u12 : w3.cell? ⟨b1, 12, none⟩ = some (.int .i64 sq) := (blk_cell HPs.out 12).trans rfl; have u13 : w3.cell? ⟨b1, 13, none⟩ = some (.slice A13 bd.length c13) := (blk_cell HPs.out 13).trans rfl) | (go_at_call 16; refine (drumlineref1_Same.calls kf 1 p n wt mk lk fl cy of_ A9 c9 ag f1 f2 sq A13 c13 bd 1 p n wt 0 0 false 0 0 none 0 [] 0 0 0 none 0 [] s _ (Kd.C_below H9.out HBs.out) Q9.out (Kd.C_below H13.out HBs.out) Q13.out (C_nil_ (Kd.int .i64) _) (Nat.le_refl 0) (C_nil_ (Kd.int .u8) _) (Nat.le_refl 0) HS.out).mono ?_; rintro e w4 ⟨rfl, hb⟩; have HB4 := Aside0.mk (below_step HBs.out hb); have HP4 := Aside0.mk ((hb.block b1 (blk_lt HPs.out)).trans HPs.out); clear hb))
 all_goals
  obtain ⟨y0, y1, y2, y3, y4, y5, y6, y7, y8, y9, y10, y11, y12, y13⟩ := cellsK14 HP4.out
  cases s with
  | false =>
   go_wp2_with fail
   go_ret
   exact ⟨rfl, HB4.out⟩
  | true =>
   by_cases zwa : wt < 0
   ·have cwa : decide (wt < 0) = true := decide_eq_true zwa
    have HK : Aside0 (restB wt mk lk cy of_ f1 f2 bd = false) := ⟨by unfold restB inr idx; simp; omega⟩
    clear zwa
    go_wp2_with fail
    go_ret
    rw [HK.out]
    exact ⟨rfl, by repeat (first | exact HB4.out | apply pw_below_drewN)⟩
   have cwa : decide (wt < 0) = false := decide_eq_false zwa
   by_cases zwb : 60000 < wt
   ·have cwb : decide (60000 < wt) = true := decide_eq_true zwb
    have HK : Aside0 (restB wt mk lk cy of_ f1 f2 bd = false) := ⟨by unfold restB inr idx; simp; omega⟩
    clear zwb
    go_wp2_with fail
    go_ret
    rw [HK.out]
    exact ⟨rfl, by repeat (first | exact HB4.out | apply pw_below_drewN)⟩
   have cwb : decide (60000 < wt) = false := decide_eq_false zwb
   by_cases zma : mk < 0
   ·have cma : decide (mk < 0) = true := decide_eq_true zma
    have HK : Aside0 (restB wt mk lk cy of_ f1 f2 bd = false) := ⟨by unfold restB inr idx; simp; omega⟩
    clear zma
    go_wp2_with fail
    go_ret
    rw [HK.out]
    exact ⟨rfl, by repeat (first | exact HB4.out | apply pw_below_drewN)⟩
   have cma : decide (mk < 0) = false := decide_eq_false zma
   by_cases zmb : 4096 ≤ mk
   ·have cmb : decide (4096 ≤ mk) = true := decide_eq_true zmb
    have HK : Aside0 (restB wt mk lk cy of_ f1 f2 bd = false) := ⟨by unfold restB inr idx; simp; omega⟩
    clear zmb
    go_wp2_with fail
    go_ret
    rw [HK.out]
    exact ⟨rfl, by repeat (first | exact HB4.out | apply pw_below_drewN)⟩
   have cmb : decide (4096 ≤ mk) = false := decide_eq_false zmb
   by_cases zla : lk < 0
   ·have cla : decide (lk < 0) = true := decide_eq_true zla
    have HK : Aside0 (restB wt mk lk cy of_ f1 f2 bd = false) := ⟨by unfold restB inr idx; simp; omega⟩
    clear zla
    go_wp2_with fail
    go_ret
    rw [HK.out]
    exact ⟨rfl, by repeat (first | exact HB4.out | apply pw_below_drewN)⟩
   have cla : decide (lk < 0) = false := decide_eq_false zla
   by_cases zlb : 10 ≤ lk
   ·have clb : decide (10 ≤ lk) = true := decide_eq_true zlb
    have HK : Aside0 (restB wt mk lk cy of_ f1 f2 bd = false) := ⟨by unfold restB inr idx; simp; omega⟩
    clear zlb
    go_wp2_with fail
    go_ret
    rw [HK.out]
    exact ⟨rfl, by repeat (first | exact HB4.out | apply pw_below_drewN)⟩
   have clb : decide (10 ≤ lk) = false := decide_eq_false zlb
   obtain ⟨tc, htc⟩ : ∃ r, inr cy 0 1099511627776 = r := ⟨_, rfl⟩
   obtain ⟨tt, htt⟩ : ∃ r, inr of_ (-1099511627776) 1099511627776 = r := ⟨_, rfl⟩
   have TC := Aside0.mk (rinr_is cy 0 1099511627776)
   have TT := Aside0.mk (rtime_is of_)
   rw [htc] at TC
   rw [htt] at TT
   have HR : Aside0 (restB wt mk lk cy of_ f1 f2 bd = (tc && (tt && (idx f1 6 && (idx f2 6 && decide ((bd.length : Int) ≤ 24)))))) := ⟨by unfold restB; rw [htc, htt, show inr wt 0 60000 = true by unfold inr; exact decide_eq_true (by omega), show idx mk 4096 = true by unfold idx; exact decide_eq_true (by omega), show idx lk 10 = true by unfold idx; exact decide_eq_true (by omega)]; simp⟩
   clear htc htt zwa zwb zma zmb zla zlb
   go_wp2_with fail
   refine (drumlineref1_within.calls cy 0 1099511627776 tc _ TC.out).mono ?_
   rintro e wd ⟨rfl, ⟨ma_, rfl⟩⟩
   cases tc with
   | false =>
    go_wp2_with fail
    go_ret
    rw [HR.out]
    exact ⟨rfl, by repeat (first | exact HB4.out | apply pw_below_drewN)⟩
   | true =>
    go_wp2_with fail
    refine (drumlineref1_Time.calls of_ tt _ TT.out).mono ?_
    rintro e wd ⟨rfl, ⟨mb_, rfl⟩⟩
    cases tt with
    | false =>
     go_wp2_with fail
     go_ret
     rw [HR.out]
     exact ⟨rfl, by repeat (first | exact HB4.out | apply pw_below_drewN)⟩
    | true =>
     by_cases zfa : 0 ≤ f1
     case neg =>
      have cfa : decide (0 ≤ f1) = false := decide_eq_false zfa
      have HK : Aside0 ((true && (true && (idx f1 6 && (idx f2 6 && decide ((bd.length : Int) ≤ 24))))) = false) := ⟨by unfold idx; simp; omega⟩
      clear zfa
      go_wp2_with fail
      go_ret
      rw [HR.out, HK.out]
      exact ⟨rfl, by repeat (first | exact HB4.out | apply pw_below_drewN)⟩
     have cfa : decide (0 ≤ f1) = true := decide_eq_true zfa
     by_cases zfb : f1 < 6
     case neg =>
      have cfb : decide (f1 < 6) = false := decide_eq_false zfb
      have HK : Aside0 ((true && (true && (idx f1 6 && (idx f2 6 && decide ((bd.length : Int) ≤ 24))))) = false) := ⟨by unfold idx; simp; omega⟩
      clear zfb
      go_wp2_with fail
      go_ret
      rw [HR.out, HK.out]
      exact ⟨rfl, by repeat (first | exact HB4.out | apply pw_below_drewN)⟩
     have cfb : decide (f1 < 6) = true := decide_eq_true zfb
     by_cases zfc : 0 ≤ f2
     case neg =>
      have cfc : decide (0 ≤ f2) = false := decide_eq_false zfc
      have HK : Aside0 ((true && (true && (idx f1 6 && (idx f2 6 && decide ((bd.length : Int) ≤ 24))))) = false) := ⟨by unfold idx; simp; omega⟩
      clear zfc
      go_wp2_with fail
      go_ret
      rw [HR.out, HK.out]
      exact ⟨rfl, by repeat (first | exact HB4.out | apply pw_below_drewN)⟩
     have cfc : decide (0 ≤ f2) = true := decide_eq_true zfc
     by_cases zfd : f2 < 6
     case neg =>
      have cfd : decide (f2 < 6) = false := decide_eq_false zfd
      have HK : Aside0 ((true && (true && (idx f1 6 && (idx f2 6 && decide ((bd.length : Int) ≤ 24))))) = false) := ⟨by unfold idx; simp; omega⟩
      clear zfd
      go_wp2_with fail
      go_ret
      rw [HR.out, HK.out]
      exact ⟨rfl, by repeat (first | exact HB4.out | apply pw_below_drewN)⟩
     have cfd : decide (f2 < 6) = true := decide_eq_true zfd
     have HK : Aside0 ((true && (true && (idx f1 6 && (idx f2 6 && decide ((bd.length : Int) ≤ 24))))) = decide ((bd.length : Int) ≤ 24)) := ⟨by rw [show idx f1 6 = true by unfold idx; exact decide_eq_true (by omega), show idx f2 6 = true by unfold idx; exact decide_eq_true (by omega)]; rfl⟩
     clear zfa zfb zfc zfd
     go_wp2_with fail
     go_ret
     rw [HR.out, HK.out]
     exact ⟨rfl, by repeat (first | exact HB4.out | apply pw_below_drewN)⟩
end Go.Proofs.YtaaifdclojkdmaaDoor.MFr
set_option linter.unusedVariables false
set_option linter.unusedSimpArgs false
set_option maxRecDepth 100000
namespace Go.Proofs.YtaaifdclojkdmaaDoor.MFr
open Go.RowKit Go.Proofs.YtaaifdclojkdmaaDoorW.PrintWords Go.Proofs.YtaaifdclojkdmaaDoorW.PrintLast Go.Proofs.YtaaifdclojkdmaaDoorW.PrintMore
set_option maxHeartbeats 16000000 in
theorem rmay2 (kf : Nat) (p n wt mk lk : Int) (fl : Bool) (cy of_ : Int) (A9 : Option Addr) (c9 : Nat) (ag : List Int) (f1 f2 sq : Int) (A13 : Option Addr) (c13 : Nat) (bd : List Int) (s a : Bool) (w : World) (h9 : Kd.C (Kd.int .i64) w A9 ag.length ag) (q9 : ag.length ≤ c9) (h13 : Kd.C (Kd.int .u8) w A13 bd.length bd) (q13 : bd.length ≤ c13) (hp : 0 ≤ p ∧ p < 6) (hn : 0 ≤ n ∧ n < 12) (hS : drumlineref1_Same.f kf 2 p n wt mk lk fl cy of_ ag f1 f2 sq bd 2 p n 0 mk 0 false cy 0 ag 0 0 0 [] = some s) (hA : drumlineref1_ages.f kf ag = some a) :
  Calls Tryd.prog 13 #[.agg #[.int .i64 2, .int .i64 p, .int .i64 n, .int .i64 wt, .int .i64 mk, .int .i64 lk, .bool fl, .int .i64 cy, .int .i64 of_, .slice A9 ag.length c9, .int .i64 f1, .int .i64 f2, .int .i64 sq, .slice A13 bd.length c13]] w fun e w' => e = .returned (.bool (s && (a && restB wt mk lk cy of_ f1 f2 bd))) ∧ Below w.heap.size w w' := by
 have H9 := Aside0.mk h9
 have H13 := Aside0.mk h13
 have Q9 := Aside0.mk q9
 have Q13 := Aside0.mk q13
 have HS := Aside0.mk hS
 have HA := Aside0.mk hA
 clear hA
 have c0 : decide (p < 0) = false := decide_eq_false (by omega)
 have c1 : decide (6 ≤ p) = false := decide_eq_false (by omega)
 have c2 : decide (n < 0) = false := decide_eq_false (by omega)
 have c3 : decide (12 ≤ n) = false := decide_eq_false (by omega)
 clear h9 h13 q9 q13 hS hp hn
 go_enter Tryd.func13, Tryd.ntmps13
 go_wp2_with fail
 have HB2 := Aside0.mk (below_alloc (Below.refl w.heap.size w) (.cells #[.int .i64 2, .int .i64 p, .int .i64 n, .int .i64 wt, .int .i64 mk, .int .i64 lk, .bool fl, .int .i64 cy, .int .i64 of_, .slice A9 ag.length c9, .int .i64 f1, .int .i64 f2, .int .i64 sq, .slice A13 bd.length c13] 25))
 have HP2 : Aside0 ((w.alloc (.cells #[.int .i64 2, .int .i64 p, .int .i64 n, .int .i64 wt, .int .i64 mk, .int .i64 lk, .bool fl, .int .i64 cy, .int .i64 of_, .slice A9 ag.length c9, .int .i64 f1, .int .i64 f2, .int .i64 sq, .slice A13 bd.length c13] 25)).heap[w.heap.size]? = some (.cells #[.int .i64 2, .int .i64 p, .int .i64 n, .int .i64 wt, .int .i64 mk, .int .i64 lk, .bool fl, .int .i64 cy, .int .i64 of_, .slice A9 ag.length c9, .int .i64 f1, .int .i64 f2, .int .i64 sq, .slice A13 bd.length c13] 25 (0, 0))) := ⟨heap_alloc_new _ _⟩
 generalize w.alloc (.cells #[.int .i64 2, .int .i64 p, .int .i64 n, .int .i64 wt, .int .i64 mk, .int .i64 lk, .bool fl, .int .i64 cy, .int .i64 of_, .slice A9 ag.length c9, .int .i64 f1, .int .i64 f2, .int .i64 sq, .slice A13 bd.length c13] 25) = w2 at *
 obtain ⟨b1, hb1⟩ : ∃ b1, b1 = w.heap.size := ⟨_, rfl⟩
 rw [← hb1] at HP2
 rw [← hb1]
 have HB1 := Aside0.mk hb1
 clear hb1
 obtain ⟨x0, x1, x2, x3, x4, x5, x6, x7, x8, x9, x10, x11, x12, x13⟩ := cellsK14 HP2.out
 go_region_with (first | (go_at_call 33; refine (spare2 p n wt mk lk fl cy of_ f1 f2 sq A9 ag.length c9 A13 bd.length c13 _).mono ?_; rintro e w3 ⟨rfl, hb⟩; have kf3 := HP2; have u_ := hb; have HBs := Aside0.mk (HB2.out.trans ((drew_below hb).mono HB2.out.size)); have HPs := Aside0.mk (((drew_below hb).block b1 (blk_lt HP2.out)).trans HP2.out); clear hb u_ kf3; have u0 : w3.cell? ⟨b1, 0, none⟩ = some (.int .i64 2) := (blk_cell HPs.out 0).trans rfl; have u1 : w3.cell? ⟨b1, 1, none⟩ = some (.int .i64 p) := (blk_cell HPs.out 1).trans rfl; have u2 : w3.cell? ⟨b1, 2, none⟩ = some (.int .i64 n) := (blk_cell HPs.out 2).trans rfl; have u3 : w3.cell? ⟨b1, 3, none⟩ = some (.int .i64 wt) := (blk_cell HPs.out 3).trans rfl; have u4 : w3.cell? ⟨b1, 4, none⟩ = some (.int .i64 mk) := (blk_cell HPs.out 4).trans rfl; have u5 : w3.cell? ⟨b1, 5, none⟩ = some (.int .i64 lk) := (blk_cell HPs.out 5).trans rfl; have u6 : w3.cell? ⟨b1, 6, none⟩ = some (.bool fl) := (blk_cell HPs.out 6).trans rfl; have u7 : w3.cell? ⟨b1, 7, none⟩ = some (.int .i64 cy) := (blk_cell HPs.out 7).trans rfl; have u8 : w3.cell? ⟨b1, 8, none⟩ = some (.int .i64 of_) := (blk_cell HPs.out 8).trans rfl; have u9 : w3.cell? ⟨b1, 9, none⟩ = some (.slice A9 ag.length c9) := (blk_cell HPs.out 9).trans rfl; have u10 : w3.cell? ⟨b1, 10, none⟩ = some (.int .i64 f1) := (blk_cell HPs.out 10).trans rfl; have u11 : w3.cell? ⟨b1, 11, none⟩ = some (.int .i64 f2) := (blk_cell HPs.out 11).trans rfl; have u12 : w3.cell? ⟨b1, 12, none⟩ = some (.int .i64 sq) := (blk_cell HPs.out 12).trans rfl; have u13 : w3.cell? ⟨b1, 13, none⟩ = some (.slice A13 bd.length c13) := (blk_cell HPs.out 13).trans rfl) | (go_at_call 16; refine (drumlineref1_Same.calls kf 2 p n wt mk lk fl cy of_ A9 c9 ag f1 f2 sq A13 c13 bd 2 p n 0 mk 0 false cy 0 A9 c9 ag 0 0 0 none 0 [] s _ (Kd.C_below H9.out HBs.out) Q9.out (Kd.C_below H13.out HBs.out) Q13.out (Kd.C_below H9.out HBs.out) Q9.out (C_nil_ (Kd.int .u8) _) (Nat.le_refl 0) HS.out).mono ?_; rintro e w4 ⟨rfl, hb⟩; have HB4 := Aside0.mk (below_step HBs.out hb); have HP4 := Aside0.mk ((hb.block b1 (blk_lt HPs.out)).trans HPs.out); clear hb))
 all_goals
  obtain ⟨y0, y1, y2, y3, y4, y5, y6, y7, y8, y9, y10, y11, y12, y13⟩ := cellsK14 HP4.out
  cases s with
  | false =>
   go_wp2_with fail
   go_ret
   exact ⟨rfl, HB4.out⟩
  | true =>
   go_wp2_with fail
   refine (drumlineref1_ages.calls kf A9 c9 ag a _ (Kd.C_below H9.out HB4.out) Q9.out HA.out).mono ?_
   rintro e w5 ⟨rfl, hD⟩
   have HB5 := Aside0.mk (below_step HB4.out hD.below)
   have HP5 := Aside0.mk ((hD.below.block b1 (blk_lt HP4.out)).trans HP4.out)
   clear hD y0 y1 y2 y3 y4 y5 y6 y7 y8 y9 y10 y11 y12 y13
   obtain ⟨y0, y1, y2, y3, y4, y5, y6, y7, y8, y9, y10, y11, y12, y13⟩ := cellsK14 HP5.out
   cases a with
   | false =>
    go_wp2_with fail
    go_ret
    exact ⟨rfl, by repeat (first | exact HB5.out | apply pw_below_drewN)⟩
   | true =>
    by_cases zwa : wt < 0
    ·have cwa : decide (wt < 0) = true := decide_eq_true zwa
     have HK : Aside0 (restB wt mk lk cy of_ f1 f2 bd = false) := ⟨by unfold restB inr idx; simp; omega⟩
     clear zwa
     go_wp2_with fail
     go_ret
     rw [HK.out]
     exact ⟨rfl, by repeat (first | exact HB5.out | apply pw_below_drewN)⟩
    have cwa : decide (wt < 0) = false := decide_eq_false zwa
    by_cases zwb : 60000 < wt
    ·have cwb : decide (60000 < wt) = true := decide_eq_true zwb
     have HK : Aside0 (restB wt mk lk cy of_ f1 f2 bd = false) := ⟨by unfold restB inr idx; simp; omega⟩
     clear zwb
     go_wp2_with fail
     go_ret
     rw [HK.out]
     exact ⟨rfl, by repeat (first | exact HB5.out | apply pw_below_drewN)⟩
    have cwb : decide (60000 < wt) = false := decide_eq_false zwb
    by_cases zma : mk < 0
    ·have cma : decide (mk < 0) = true := decide_eq_true zma
     have HK : Aside0 (restB wt mk lk cy of_ f1 f2 bd = false) := ⟨by unfold restB inr idx; simp; omega⟩
     clear zma
     go_wp2_with fail
     go_ret
     rw [HK.out]
     exact ⟨rfl, by repeat (first | exact HB5.out | apply pw_below_drewN)⟩
    have cma : decide (mk < 0) = false := decide_eq_false zma
    by_cases zmb : 4096 ≤ mk
    ·have cmb : decide (4096 ≤ mk) = true := decide_eq_true zmb
     have HK : Aside0 (restB wt mk lk cy of_ f1 f2 bd = false) := ⟨by unfold restB inr idx; simp; omega⟩
     clear zmb
     go_wp2_with fail
     go_ret
     rw [HK.out]
     exact ⟨rfl, by repeat (first | exact HB5.out | apply pw_below_drewN)⟩
    have cmb : decide (4096 ≤ mk) = false := decide_eq_false zmb
    by_cases zla : lk < 0
    ·have cla : decide (lk < 0) = true := decide_eq_true zla
     have HK : Aside0 (restB wt mk lk cy of_ f1 f2 bd = false) := ⟨by unfold restB inr idx; simp; omega⟩
     clear zla
     go_wp2_with fail
     go_ret
     rw [HK.out]
     exact ⟨rfl, by repeat (first | exact HB5.out | apply pw_below_drewN)⟩
    have cla : decide (lk < 0) = false := decide_eq_false zla
    by_cases zlb : 10 ≤ lk
    ·have clb : decide (10 ≤ lk) = true := decide_eq_true zlb
     have HK : Aside0 (restB wt mk lk cy of_ f1 f2 bd = false) := ⟨by unfold restB inr idx; simp; omega⟩
     clear zlb
     go_wp2_with fail
     go_ret
     rw [HK.out]
     exact ⟨rfl, by repeat (first | exact HB5.out | apply pw_below_drewN)⟩
    have clb : decide (10 ≤ lk) = false := decide_eq_false zlb
    obtain ⟨tc, htc⟩ : ∃ r, inr cy 0 1099511627776 = r := ⟨_, rfl⟩
    obtain ⟨tt, htt⟩ : ∃ r, inr of_ (-1099511627776) 1099511627776 = r := ⟨_, rfl⟩
    have TC := Aside0.mk (rinr_is cy 0 1099511627776)
    have TT := Aside0.mk (rtime_is of_)
    rw [htc] at TC
    rw [htt] at TT
    have HR : Aside0 (restB wt mk lk cy of_ f1 f2 bd = (tc && (tt && (idx f1 6 && (idx f2 6 && decide ((bd.length : Int) ≤ 24)))))) := ⟨by unfold restB; rw [htc, htt, show inr wt 0 60000 = true by unfold inr; exact decide_eq_true (by omega), show idx mk 4096 = true by unfold idx; exact decide_eq_true (by omega), show idx lk 10 = true by unfold idx; exact decide_eq_true (by omega)]; simp⟩
    clear htc htt zwa zwb zma zmb zla zlb
    go_wp2_with fail
    refine (drumlineref1_within.calls cy 0 1099511627776 tc _ TC.out).mono ?_
    rintro e wd ⟨rfl, ⟨ma_, rfl⟩⟩
    cases tc with
    | false =>
     go_wp2_with fail
     go_ret
     rw [HR.out]
     exact ⟨rfl, by repeat (first | exact HB5.out | apply pw_below_drewN)⟩
    | true =>
     go_wp2_with fail
     refine (drumlineref1_Time.calls of_ tt _ TT.out).mono ?_
     rintro e wd ⟨rfl, ⟨mb_, rfl⟩⟩
     cases tt with
     | false =>
      go_wp2_with fail
      go_ret
      rw [HR.out]
      exact ⟨rfl, by repeat (first | exact HB5.out | apply pw_below_drewN)⟩
     | true =>
      by_cases zfa : 0 ≤ f1
      case neg =>
       have cfa : decide (0 ≤ f1) = false := decide_eq_false zfa
       have HK : Aside0 ((true && (true && (idx f1 6 && (idx f2 6 && decide ((bd.length : Int) ≤ 24))))) = false) := ⟨by unfold idx; simp; omega⟩
       clear zfa
       go_wp2_with fail
       go_ret
       rw [HR.out, HK.out]
       exact ⟨rfl, by repeat (first | exact HB5.out | apply pw_below_drewN)⟩
      have cfa : decide (0 ≤ f1) = true := decide_eq_true zfa
      by_cases zfb : f1 < 6
      case neg =>
       have cfb : decide (f1 < 6) = false := decide_eq_false zfb
       have HK : Aside0 ((true && (true && (idx f1 6 && (idx f2 6 && decide ((bd.length : Int) ≤ 24))))) = false) := ⟨by unfold idx; simp; omega⟩
       clear zfb
       go_wp2_with fail
       go_ret
       rw [HR.out, HK.out]
       exact ⟨rfl, by repeat (first | exact HB5.out | apply pw_below_drewN)⟩
      have cfb : decide (f1 < 6) = true := decide_eq_true zfb
      by_cases zfc : 0 ≤ f2
      case neg =>
       have cfc : decide (0 ≤ f2) = false := decide_eq_false zfc
       have HK : Aside0 ((true && (true && (idx f1 6 && (idx f2 6 && decide ((bd.length : Int) ≤ 24))))) = false) := ⟨by unfold idx; simp; omega⟩
       clear zfc
       go_wp2_with fail
       go_ret
       rw [HR.out, HK.out]
       exact ⟨rfl, by repeat (first | exact HB5.out | apply pw_below_drewN)⟩
      have cfc : decide (0 ≤ f2) = true := decide_eq_true zfc
      by_cases zfd : f2 < 6
      case neg =>
       have cfd : decide (f2 < 6) = false := decide_eq_false zfd
       have HK : Aside0 ((true && (true && (idx f1 6 && (idx f2 6 && decide ((bd.length : Int) ≤ 24))))) = false) := ⟨by unfold idx; simp; omega⟩
       clear zfd
       go_wp2_with fail
       go_ret
       rw [HR.out, HK.out]
       exact ⟨rfl, by repeat (first | exact HB5.out | apply pw_below_drewN)⟩
      have cfd : decide (f2 < 6) = true := decide_eq_true zfd
      have HK : Aside0 ((true && (true && (idx f1 6 && (idx f2 6 && decide ((bd.length : Int) ≤ 24))))) = decide ((bd.length : Int) ≤ 24)) := ⟨by rw [show idx f1 6 = true by unfold idx; exact decide_eq_true (by omega), show idx f2 6 = true by unfold idx; exact decide_eq_true (by omega)]; rfl⟩
      clear zfa zfb zfc zfd
      go_wp2_with fail
      go_ret
      rw [HR.out, HK.out]
      exact ⟨rfl, by repeat (first | exact HB5.out | apply pw_below_drewN)⟩
end Go.Proofs.YtaaifdclojkdmaaDoor.MFr
set_option linter.unusedVariables false
set_option linter.unusedSimpArgs false
set_option maxRecDepth 100000
namespace Go.Proofs.YtaaifdclojkdmaaDoor.MFr
open Go.RowKit Go.Proofs.YtaaifdclojkdmaaDoorW.PrintWords Go.Proofs.YtaaifdclojkdmaaDoorW.PrintLast Go.Proofs.YtaaifdclojkdmaaDoorW.PrintMore
set_option maxHeartbeats 16000000 in
theorem rmay3 (kf : Nat) (p n wt mk lk : Int) (fl : Bool) (cy of_ : Int) (A9 : Option Addr) (c9 : Nat) (ag : List Int) (f1 f2 sq : Int) (A13 : Option Addr) (c13 : Nat) (bd : List Int) (s : Bool) (w : World) (h9 : Kd.C (Kd.int .i64) w A9 ag.length ag) (q9 : ag.length ≤ c9) (h13 : Kd.C (Kd.int .u8) w A13 bd.length bd) (q13 : bd.length ≤ c13) (hp : 0 ≤ p ∧ p < 6) (hn : 0 ≤ n ∧ n < 12) (hS : drumlineref1_Same.f kf 3 p n wt mk lk fl cy of_ ag f1 f2 sq bd 3 p n 0 0 lk fl cy of_ [] 0 0 0 [] = some s) :
  Calls Tryd.prog 13 #[.agg #[.int .i64 3, .int .i64 p, .int .i64 n, .int .i64 wt, .int .i64 mk, .int .i64 lk, .bool fl, .int .i64 cy, .int .i64 of_, .slice A9 ag.length c9, .int .i64 f1, .int .i64 f2, .int .i64 sq, .slice A13 bd.length c13]] w fun e w' => e = .returned (.bool (s && (restB wt mk lk cy of_ f1 f2 bd))) ∧ Below w.heap.size w w' := by
 have H9 := Aside0.mk h9
 have H13 := Aside0.mk h13
 have Q9 := Aside0.mk q9
 have Q13 := Aside0.mk q13
 have HS := Aside0.mk hS
 have c0 : decide (p < 0) = false := decide_eq_false (by omega)
 have c1 : decide (6 ≤ p) = false := decide_eq_false (by omega)
 have c2 : decide (n < 0) = false := decide_eq_false (by omega)
 have c3 : decide (12 ≤ n) = false := decide_eq_false (by omega)
 clear h9 h13 q9 q13 hS hp hn
 go_enter Tryd.func13, Tryd.ntmps13
 go_wp2_with fail
 have HB2 := Aside0.mk (below_alloc (Below.refl w.heap.size w) (.cells #[.int .i64 3, .int .i64 p, .int .i64 n, .int .i64 wt, .int .i64 mk, .int .i64 lk, .bool fl, .int .i64 cy, .int .i64 of_, .slice A9 ag.length c9, .int .i64 f1, .int .i64 f2, .int .i64 sq, .slice A13 bd.length c13] 25))
 have HP2 : Aside0 ((w.alloc (.cells #[.int .i64 3, .int .i64 p, .int .i64 n, .int .i64 wt, .int .i64 mk, .int .i64 lk, .bool fl, .int .i64 cy, .int .i64 of_, .slice A9 ag.length c9, .int .i64 f1, .int .i64 f2, .int .i64 sq, .slice A13 bd.length c13] 25)).heap[w.heap.size]? = some (.cells #[.int .i64 3, .int .i64 p, .int .i64 n, .int .i64 wt, .int .i64 mk, .int .i64 lk, .bool fl, .int .i64 cy, .int .i64 of_, .slice A9 ag.length c9, .int .i64 f1, .int .i64 f2, .int .i64 sq, .slice A13 bd.length c13] 25 (0, 0))) := ⟨heap_alloc_new _ _⟩
 generalize w.alloc (.cells #[.int .i64 3, .int .i64 p, .int .i64 n, .int .i64 wt, .int .i64 mk, .int .i64 lk, .bool fl, .int .i64 cy, .int .i64 of_, .slice A9 ag.length c9, .int .i64 f1, .int .i64 f2, .int .i64 sq, .slice A13 bd.length c13] 25) = w2 at *
 obtain ⟨b1, hb1⟩ : ∃ b1, b1 = w.heap.size := ⟨_, rfl⟩
 rw [← hb1] at HP2
 rw [← hb1]
 have HB1 := Aside0.mk hb1
 clear hb1
 obtain ⟨x0, x1, x2, x3, x4, x5, x6, x7, x8, x9, x10, x11, x12, x13⟩ := cellsK14 HP2.out
 go_region_with (first | (go_at_call 33; refine (spare3 p n wt mk lk fl cy of_ f1 f2 sq A9 ag.length c9 A13 bd.length c13 _).mono ?_; rintro e w3 ⟨rfl, hb⟩; have kf3 := HP2; have u_ := hb; have HBs := Aside0.mk (HB2.out.trans ((drew_below hb).mono HB2.out.size)); have HPs := Aside0.mk (((drew_below hb).block b1 (blk_lt HP2.out)).trans HP2.out); clear hb u_ kf3; have u0 : w3.cell? ⟨b1, 0, none⟩ = some (.int .i64 3) := (blk_cell HPs.out 0).trans rfl; have u1 : w3.cell? ⟨b1, 1, none⟩ = some (.int .i64 p) := (blk_cell HPs.out 1).trans rfl; have u2 : w3.cell? ⟨b1, 2, none⟩ = some (.int .i64 n) := (blk_cell HPs.out 2).trans rfl; have u3 : w3.cell? ⟨b1, 3, none⟩ = some (.int .i64 wt) := (blk_cell HPs.out 3).trans rfl; have u4 : w3.cell? ⟨b1, 4, none⟩ = some (.int .i64 mk) := (blk_cell HPs.out 4).trans rfl; have u5 : w3.cell? ⟨b1, 5, none⟩ = some (.int .i64 lk) := (blk_cell HPs.out 5).trans rfl; have u6 : w3.cell? ⟨b1, 6, none⟩ = some (.bool fl) := (blk_cell HPs.out 6).trans rfl; have u7 : w3.cell? ⟨b1, 7, none⟩ = some (.int .i64 cy) := (blk_cell HPs.out 7).trans rfl; have u8 : w3.cell? ⟨b1, 8, none⟩ = some (.int .i64 of_) := (blk_cell HPs.out 8).trans rfl; have u9 : w3.cell? ⟨b1, 9, none⟩ = some (.slice A9 ag.length c9) := (blk_cell HPs.out 9).trans rfl; have u10 : w3.cell? ⟨b1, 10, none⟩ = some (.int .i64 f1) := (blk_cell HPs.out 10).trans rfl; have u11 : w3.cell? ⟨b1, 11, none⟩ = some (.int .i64 f2) := (blk_cell HPs.out 11).trans rfl; have u12 : w3.cell? ⟨b1, 12, none⟩ = some (.int .i64 sq) := (blk_cell HPs.out 12).trans rfl; have u13 : w3.cell? ⟨b1, 13, none⟩ = some (.slice A13 bd.length c13) := (blk_cell HPs.out 13).trans rfl) | (go_at_call 16; refine (drumlineref1_Same.calls kf 3 p n wt mk lk fl cy of_ A9 c9 ag f1 f2 sq A13 c13 bd 3 p n 0 0 lk fl cy of_ none 0 [] 0 0 0 none 0 [] s _ (Kd.C_below H9.out HBs.out) Q9.out (Kd.C_below H13.out HBs.out) Q13.out (C_nil_ (Kd.int .i64) _) (Nat.le_refl 0) (C_nil_ (Kd.int .u8) _) (Nat.le_refl 0) HS.out).mono ?_; rintro e w4 ⟨rfl, hb⟩; have HB4 := Aside0.mk (below_step HBs.out hb); have HP4 := Aside0.mk ((hb.block b1 (blk_lt HPs.out)).trans HPs.out); clear hb))
 all_goals
  obtain ⟨y0, y1, y2, y3, y4, y5, y6, y7, y8, y9, y10, y11, y12, y13⟩ := cellsK14 HP4.out
  cases s with
  | false =>
   go_wp2_with fail
   go_ret
   exact ⟨rfl, HB4.out⟩
  | true =>
   by_cases zwa : wt < 0
   ·have cwa : decide (wt < 0) = true := decide_eq_true zwa
    have HK : Aside0 (restB wt mk lk cy of_ f1 f2 bd = false) := ⟨by unfold restB inr idx; simp; omega⟩
    clear zwa
    go_wp2_with fail
    go_ret
    rw [HK.out]
    exact ⟨rfl, by repeat (first | exact HB4.out | apply pw_below_drewN)⟩
   have cwa : decide (wt < 0) = false := decide_eq_false zwa
   by_cases zwb : 60000 < wt
   ·have cwb : decide (60000 < wt) = true := decide_eq_true zwb
    have HK : Aside0 (restB wt mk lk cy of_ f1 f2 bd = false) := ⟨by unfold restB inr idx; simp; omega⟩
    clear zwb
    go_wp2_with fail
    go_ret
    rw [HK.out]
    exact ⟨rfl, by repeat (first | exact HB4.out | apply pw_below_drewN)⟩
   have cwb : decide (60000 < wt) = false := decide_eq_false zwb
   by_cases zma : mk < 0
   ·have cma : decide (mk < 0) = true := decide_eq_true zma
    have HK : Aside0 (restB wt mk lk cy of_ f1 f2 bd = false) := ⟨by unfold restB inr idx; simp; omega⟩
    clear zma
    go_wp2_with fail
    go_ret
    rw [HK.out]
    exact ⟨rfl, by repeat (first | exact HB4.out | apply pw_below_drewN)⟩
   have cma : decide (mk < 0) = false := decide_eq_false zma
   by_cases zmb : 4096 ≤ mk
   ·have cmb : decide (4096 ≤ mk) = true := decide_eq_true zmb
    have HK : Aside0 (restB wt mk lk cy of_ f1 f2 bd = false) := ⟨by unfold restB inr idx; simp; omega⟩
    clear zmb
    go_wp2_with fail
    go_ret
    rw [HK.out]
    exact ⟨rfl, by repeat (first | exact HB4.out | apply pw_below_drewN)⟩
   have cmb : decide (4096 ≤ mk) = false := decide_eq_false zmb
   by_cases zla : lk < 0
   ·have cla : decide (lk < 0) = true := decide_eq_true zla
    have HK : Aside0 (restB wt mk lk cy of_ f1 f2 bd = false) := ⟨by unfold restB inr idx; simp; omega⟩
    clear zla
    go_wp2_with fail
    go_ret
    rw [HK.out]
    exact ⟨rfl, by repeat (first | exact HB4.out | apply pw_below_drewN)⟩
   have cla : decide (lk < 0) = false := decide_eq_false zla
   by_cases zlb : 10 ≤ lk
   ·have clb : decide (10 ≤ lk) = true := decide_eq_true zlb
    have HK : Aside0 (restB wt mk lk cy of_ f1 f2 bd = false) := ⟨by unfold restB inr idx; simp; omega⟩
    clear zlb
    go_wp2_with fail
    go_ret
    rw [HK.out]
    exact ⟨rfl, by repeat (first | exact HB4.out | apply pw_below_drewN)⟩
   have clb : decide (10 ≤ lk) = false := decide_eq_false zlb
   obtain ⟨tc, htc⟩ : ∃ r, inr cy 0 1099511627776 = r := ⟨_, rfl⟩
   obtain ⟨tt, htt⟩ : ∃ r, inr of_ (-1099511627776) 1099511627776 = r := ⟨_, rfl⟩
   have TC := Aside0.mk (rinr_is cy 0 1099511627776)
   have TT := Aside0.mk (rtime_is of_)
   rw [htc] at TC
   rw [htt] at TT
   have HR : Aside0 (restB wt mk lk cy of_ f1 f2 bd = (tc && (tt && (idx f1 6 && (idx f2 6 && decide ((bd.length : Int) ≤ 24)))))) := ⟨by unfold restB; rw [htc, htt, show inr wt 0 60000 = true by unfold inr; exact decide_eq_true (by omega), show idx mk 4096 = true by unfold idx; exact decide_eq_true (by omega), show idx lk 10 = true by unfold idx; exact decide_eq_true (by omega)]; simp⟩
   clear htc htt zwa zwb zma zmb zla zlb
   go_wp2_with fail
   refine (drumlineref1_within.calls cy 0 1099511627776 tc _ TC.out).mono ?_
   rintro e wd ⟨rfl, ⟨ma_, rfl⟩⟩
   cases tc with
   | false =>
    go_wp2_with fail
    go_ret
    rw [HR.out]
    exact ⟨rfl, by repeat (first | exact HB4.out | apply pw_below_drewN)⟩
   | true =>
    go_wp2_with fail
    refine (drumlineref1_Time.calls of_ tt _ TT.out).mono ?_
    rintro e wd ⟨rfl, ⟨mb_, rfl⟩⟩
    cases tt with
    | false =>
     go_wp2_with fail
     go_ret
     rw [HR.out]
     exact ⟨rfl, by repeat (first | exact HB4.out | apply pw_below_drewN)⟩
    | true =>
     by_cases zfa : 0 ≤ f1
     case neg =>
      have cfa : decide (0 ≤ f1) = false := decide_eq_false zfa
      have HK : Aside0 ((true && (true && (idx f1 6 && (idx f2 6 && decide ((bd.length : Int) ≤ 24))))) = false) := ⟨by unfold idx; simp; omega⟩
      clear zfa
      go_wp2_with fail
      go_ret
      rw [HR.out, HK.out]
      exact ⟨rfl, by repeat (first | exact HB4.out | apply pw_below_drewN)⟩
     have cfa : decide (0 ≤ f1) = true := decide_eq_true zfa
     by_cases zfb : f1 < 6
     case neg =>
      have cfb : decide (f1 < 6) = false := decide_eq_false zfb
      have HK : Aside0 ((true && (true && (idx f1 6 && (idx f2 6 && decide ((bd.length : Int) ≤ 24))))) = false) := ⟨by unfold idx; simp; omega⟩
      clear zfb
      go_wp2_with fail
      go_ret
      rw [HR.out, HK.out]
      exact ⟨rfl, by repeat (first | exact HB4.out | apply pw_below_drewN)⟩
     have cfb : decide (f1 < 6) = true := decide_eq_true zfb
     by_cases zfc : 0 ≤ f2
     case neg =>
      have cfc : decide (0 ≤ f2) = false := decide_eq_false zfc
      have HK : Aside0 ((true && (true && (idx f1 6 && (idx f2 6 && decide ((bd.length : Int) ≤ 24))))) = false) := ⟨by unfold idx; simp; omega⟩
      clear zfc
      go_wp2_with fail
      go_ret
      rw [HR.out, HK.out]
      exact ⟨rfl, by repeat (first | exact HB4.out | apply pw_below_drewN)⟩
     have cfc : decide (0 ≤ f2) = true := decide_eq_true zfc
     by_cases zfd : f2 < 6
     case neg =>
      have cfd : decide (f2 < 6) = false := decide_eq_false zfd
      have HK : Aside0 ((true && (true && (idx f1 6 && (idx f2 6 && decide ((bd.length : Int) ≤ 24))))) = false) := ⟨by unfold idx; simp; omega⟩
      clear zfd
      go_wp2_with fail
      go_ret
      rw [HR.out, HK.out]
      exact ⟨rfl, by repeat (first | exact HB4.out | apply pw_below_drewN)⟩
     have cfd : decide (f2 < 6) = true := decide_eq_true zfd
     have HK : Aside0 ((true && (true && (idx f1 6 && (idx f2 6 && decide ((bd.length : Int) ≤ 24))))) = decide ((bd.length : Int) ≤ 24)) := ⟨by rw [show idx f1 6 = true by unfold idx; exact decide_eq_true (by omega), show idx f2 6 = true by unfold idx; exact decide_eq_true (by omega)]; rfl⟩
     clear zfa zfb zfc zfd
     go_wp2_with fail
     go_ret
     rw [HR.out, HK.out]
     exact ⟨rfl, by repeat (first | exact HB4.out | apply pw_below_drewN)⟩
end Go.Proofs.YtaaifdclojkdmaaDoor.MFr
set_option linter.unusedVariables false
set_option linter.unusedSimpArgs false
set_option maxRecDepth 100000
namespace Go.Proofs.YtaaifdclojkdmaaDoor.MFr
open Go.RowKit Go.Proofs.YtaaifdclojkdmaaDoorW.PrintWords Go.Proofs.YtaaifdclojkdmaaDoorW.PrintLast Go.Proofs.YtaaifdclojkdmaaDoorW.PrintMore
set_option maxHeartbeats 16000000 in
theorem rmay4 (kf : Nat) (p n wt mk lk : Int) (fl : Bool) (cy of_ : Int) (A9 : Option Addr) (c9 : Nat) (ag : List Int) (f1 f2 sq : Int) (A13 : Option Addr) (c13 : Nat) (bd : List Int) (s a : Bool) (w : World) (h9 : Kd.C (Kd.int .i64) w A9 ag.length ag) (q9 : ag.length ≤ c9) (h13 : Kd.C (Kd.int .u8) w A13 bd.length bd) (q13 : bd.length ≤ c13) (hp : 0 ≤ p ∧ p < 6) (hn : 0 ≤ n ∧ n < 12) (hS : drumlineref1_Same.f kf 4 p n wt mk lk fl cy of_ ag f1 f2 sq bd 4 p n 0 0 lk false 0 0 ag 0 0 0 [] = some s) (hA : drumlineref1_ages.f kf ag = some a) :
  Calls Tryd.prog 13 #[.agg #[.int .i64 4, .int .i64 p, .int .i64 n, .int .i64 wt, .int .i64 mk, .int .i64 lk, .bool fl, .int .i64 cy, .int .i64 of_, .slice A9 ag.length c9, .int .i64 f1, .int .i64 f2, .int .i64 sq, .slice A13 bd.length c13]] w fun e w' => e = .returned (.bool (s && (a && restB wt mk lk cy of_ f1 f2 bd))) ∧ Below w.heap.size w w' := by
 have H9 := Aside0.mk h9
 have H13 := Aside0.mk h13
 have Q9 := Aside0.mk q9
 have Q13 := Aside0.mk q13
 have HS := Aside0.mk hS
 have HA := Aside0.mk hA
 clear hA
 have c0 : decide (p < 0) = false := decide_eq_false (by omega)
 have c1 : decide (6 ≤ p) = false := decide_eq_false (by omega)
 have c2 : decide (n < 0) = false := decide_eq_false (by omega)
 have c3 : decide (12 ≤ n) = false := decide_eq_false (by omega)
 clear h9 h13 q9 q13 hS hp hn
 go_enter Tryd.func13, Tryd.ntmps13
 go_wp2_with fail
 have HB2 := Aside0.mk (below_alloc (Below.refl w.heap.size w) (.cells #[.int .i64 4, .int .i64 p, .int .i64 n, .int .i64 wt, .int .i64 mk, .int .i64 lk, .bool fl, .int .i64 cy, .int .i64 of_, .slice A9 ag.length c9, .int .i64 f1, .int .i64 f2, .int .i64 sq, .slice A13 bd.length c13] 25))
 have HP2 : Aside0 ((w.alloc (.cells #[.int .i64 4, .int .i64 p, .int .i64 n, .int .i64 wt, .int .i64 mk, .int .i64 lk, .bool fl, .int .i64 cy, .int .i64 of_, .slice A9 ag.length c9, .int .i64 f1, .int .i64 f2, .int .i64 sq, .slice A13 bd.length c13] 25)).heap[w.heap.size]? = some (.cells #[.int .i64 4, .int .i64 p, .int .i64 n, .int .i64 wt, .int .i64 mk, .int .i64 lk, .bool fl, .int .i64 cy, .int .i64 of_, .slice A9 ag.length c9, .int .i64 f1, .int .i64 f2, .int .i64 sq, .slice A13 bd.length c13] 25 (0, 0))) := ⟨heap_alloc_new _ _⟩
 generalize w.alloc (.cells #[.int .i64 4, .int .i64 p, .int .i64 n, .int .i64 wt, .int .i64 mk, .int .i64 lk, .bool fl, .int .i64 cy, .int .i64 of_, .slice A9 ag.length c9, .int .i64 f1, .int .i64 f2, .int .i64 sq, .slice A13 bd.length c13] 25) = w2 at *
 obtain ⟨b1, hb1⟩ : ∃ b1, b1 = w.heap.size := ⟨_, rfl⟩
 rw [← hb1] at HP2
 rw [← hb1]
 have HB1 := Aside0.mk hb1
 clear hb1
 obtain ⟨x0, x1, x2, x3, x4, x5, x6, x7, x8, x9, x10, x11, x12, x13⟩ := cellsK14 HP2.out
 go_region_with (first | (go_at_call 33; refine (spare4 p n wt mk lk fl cy of_ f1 f2 sq A9 ag.length c9 A13 bd.length c13 _).mono ?_; rintro e w3 ⟨rfl, hb⟩; have kf3 := HP2; have u_ := hb; have HBs := Aside0.mk (HB2.out.trans ((drew_below hb).mono HB2.out.size)); have HPs := Aside0.mk (((drew_below hb).block b1 (blk_lt HP2.out)).trans HP2.out); clear hb u_ kf3; have u0 : w3.cell? ⟨b1, 0, none⟩ = some (.int .i64 4) := (blk_cell HPs.out 0).trans rfl; have u1 : w3.cell? ⟨b1, 1, none⟩ = some (.int .i64 p) := (blk_cell HPs.out 1).trans rfl; have u2 : w3.cell? ⟨b1, 2, none⟩ = some (.int .i64 n) := (blk_cell HPs.out 2).trans rfl; have u3 : w3.cell? ⟨b1, 3, none⟩ = some (.int .i64 wt) := (blk_cell HPs.out 3).trans rfl; have u4 : w3.cell? ⟨b1, 4, none⟩ = some (.int .i64 mk) := (blk_cell HPs.out 4).trans rfl; have u5 : w3.cell? ⟨b1, 5, none⟩ = some (.int .i64 lk) := (blk_cell HPs.out 5).trans rfl; have u6 : w3.cell? ⟨b1, 6, none⟩ = some (.bool fl) := (blk_cell HPs.out 6).trans rfl; have u7 : w3.cell? ⟨b1, 7, none⟩ = some (.int .i64 cy) := (blk_cell HPs.out 7).trans rfl; have u8 : w3.cell? ⟨b1, 8, none⟩ = some (.int .i64 of_) := (blk_cell HPs.out 8).trans rfl; have u9 : w3.cell? ⟨b1, 9, none⟩ = some (.slice A9 ag.length c9) := (blk_cell HPs.out 9).trans rfl; have u10 : w3.cell? ⟨b1, 10, none⟩ = some (.int .i64 f1) := (blk_cell HPs.out 10).trans rfl; have u11 : w3.cell? ⟨b1, 11, none⟩ = some (.int .i64 f2) := (blk_cell HPs.out 11).trans rfl; have u12 : w3.cell? ⟨b1, 12, none⟩ = some (.int .i64 sq) := (blk_cell HPs.out 12).trans rfl; have u13 : w3.cell? ⟨b1, 13, none⟩ = some (.slice A13 bd.length c13) := (blk_cell HPs.out 13).trans rfl) | (go_at_call 16; refine (drumlineref1_Same.calls kf 4 p n wt mk lk fl cy of_ A9 c9 ag f1 f2 sq A13 c13 bd 4 p n 0 0 lk false 0 0 A9 c9 ag 0 0 0 none 0 [] s _ (Kd.C_below H9.out HBs.out) Q9.out (Kd.C_below H13.out HBs.out) Q13.out (Kd.C_below H9.out HBs.out) Q9.out (C_nil_ (Kd.int .u8) _) (Nat.le_refl 0) HS.out).mono ?_; rintro e w4 ⟨rfl, hb⟩; have HB4 := Aside0.mk (below_step HBs.out hb); have HP4 := Aside0.mk ((hb.block b1 (blk_lt HPs.out)).trans HPs.out); clear hb))
 all_goals
  obtain ⟨y0, y1, y2, y3, y4, y5, y6, y7, y8, y9, y10, y11, y12, y13⟩ := cellsK14 HP4.out
  cases s with
  | false =>
   go_wp2_with fail
   go_ret
   exact ⟨rfl, HB4.out⟩
  | true =>
   go_wp2_with fail
   refine (drumlineref1_ages.calls kf A9 c9 ag a _ (Kd.C_below H9.out HB4.out) Q9.out HA.out).mono ?_
   rintro e w5 ⟨rfl, hD⟩
   have HB5 := Aside0.mk (below_step HB4.out hD.below)
   have HP5 := Aside0.mk ((hD.below.block b1 (blk_lt HP4.out)).trans HP4.out)
   clear hD y0 y1 y2 y3 y4 y5 y6 y7 y8 y9 y10 y11 y12 y13
   obtain ⟨y0, y1, y2, y3, y4, y5, y6, y7, y8, y9, y10, y11, y12, y13⟩ := cellsK14 HP5.out
   cases a with
   | false =>
    go_wp2_with fail
    go_ret
    exact ⟨rfl, by repeat (first | exact HB5.out | apply pw_below_drewN)⟩
   | true =>
    by_cases zwa : wt < 0
    ·have cwa : decide (wt < 0) = true := decide_eq_true zwa
     have HK : Aside0 (restB wt mk lk cy of_ f1 f2 bd = false) := ⟨by unfold restB inr idx; simp; omega⟩
     clear zwa
     go_wp2_with fail
     go_ret
     rw [HK.out]
     exact ⟨rfl, by repeat (first | exact HB5.out | apply pw_below_drewN)⟩
    have cwa : decide (wt < 0) = false := decide_eq_false zwa
    by_cases zwb : 60000 < wt
    ·have cwb : decide (60000 < wt) = true := decide_eq_true zwb
     have HK : Aside0 (restB wt mk lk cy of_ f1 f2 bd = false) := ⟨by unfold restB inr idx; simp; omega⟩
     clear zwb
     go_wp2_with fail
     go_ret
     rw [HK.out]
     exact ⟨rfl, by repeat (first | exact HB5.out | apply pw_below_drewN)⟩
    have cwb : decide (60000 < wt) = false := decide_eq_false zwb
    by_cases zma : mk < 0
    ·have cma : decide (mk < 0) = true := decide_eq_true zma
     have HK : Aside0 (restB wt mk lk cy of_ f1 f2 bd = false) := ⟨by unfold restB inr idx; simp; omega⟩
     clear zma
     go_wp2_with fail
     go_ret
     rw [HK.out]
     exact ⟨rfl, by repeat (first | exact HB5.out | apply pw_below_drewN)⟩
    have cma : decide (mk < 0) = false := decide_eq_false zma
    by_cases zmb : 4096 ≤ mk
    ·have cmb : decide (4096 ≤ mk) = true := decide_eq_true zmb
     have HK : Aside0 (restB wt mk lk cy of_ f1 f2 bd = false) := ⟨by unfold restB inr idx; simp; omega⟩
     clear zmb
     go_wp2_with fail
     go_ret
     rw [HK.out]
     exact ⟨rfl, by repeat (first | exact HB5.out | apply pw_below_drewN)⟩
    have cmb : decide (4096 ≤ mk) = false := decide_eq_false zmb
    by_cases zla : lk < 0
    ·have cla : decide (lk < 0) = true := decide_eq_true zla
     have HK : Aside0 (restB wt mk lk cy of_ f1 f2 bd = false) := ⟨by unfold restB inr idx; simp; omega⟩
     clear zla
     go_wp2_with fail
     go_ret
     rw [HK.out]
     exact ⟨rfl, by repeat (first | exact HB5.out | apply pw_below_drewN)⟩
    have cla : decide (lk < 0) = false := decide_eq_false zla
    by_cases zlb : 10 ≤ lk
    ·have clb : decide (10 ≤ lk) = true := decide_eq_true zlb
     have HK : Aside0 (restB wt mk lk cy of_ f1 f2 bd = false) := ⟨by unfold restB inr idx; simp; omega⟩
     clear zlb
     go_wp2_with fail
     go_ret
     rw [HK.out]
     exact ⟨rfl, by repeat (first | exact HB5.out | apply pw_below_drewN)⟩
    have clb : decide (10 ≤ lk) = false := decide_eq_false zlb
    obtain ⟨tc, htc⟩ : ∃ r, inr cy 0 1099511627776 = r := ⟨_, rfl⟩
    obtain ⟨tt, htt⟩ : ∃ r, inr of_ (-1099511627776) 1099511627776 = r := ⟨_, rfl⟩
    have TC := Aside0.mk (rinr_is cy 0 1099511627776)
    have TT := Aside0.mk (rtime_is of_)
    rw [htc] at TC
    rw [htt] at TT
    have HR : Aside0 (restB wt mk lk cy of_ f1 f2 bd = (tc && (tt && (idx f1 6 && (idx f2 6 && decide ((bd.length : Int) ≤ 24)))))) := ⟨by unfold restB; rw [htc, htt, show inr wt 0 60000 = true by unfold inr; exact decide_eq_true (by omega), show idx mk 4096 = true by unfold idx; exact decide_eq_true (by omega), show idx lk 10 = true by unfold idx; exact decide_eq_true (by omega)]; simp⟩
    clear htc htt zwa zwb zma zmb zla zlb
    go_wp2_with fail
    refine (drumlineref1_within.calls cy 0 1099511627776 tc _ TC.out).mono ?_
    rintro e wd ⟨rfl, ⟨ma_, rfl⟩⟩
    cases tc with
    | false =>
     go_wp2_with fail
     go_ret
     rw [HR.out]
     exact ⟨rfl, by repeat (first | exact HB5.out | apply pw_below_drewN)⟩
    | true =>
     go_wp2_with fail
     refine (drumlineref1_Time.calls of_ tt _ TT.out).mono ?_
     rintro e wd ⟨rfl, ⟨mb_, rfl⟩⟩
     cases tt with
     | false =>
      go_wp2_with fail
      go_ret
      rw [HR.out]
      exact ⟨rfl, by repeat (first | exact HB5.out | apply pw_below_drewN)⟩
     | true =>
      by_cases zfa : 0 ≤ f1
      case neg =>
       have cfa : decide (0 ≤ f1) = false := decide_eq_false zfa
       have HK : Aside0 ((true && (true && (idx f1 6 && (idx f2 6 && decide ((bd.length : Int) ≤ 24))))) = false) := ⟨by unfold idx; simp; omega⟩
       clear zfa
       go_wp2_with fail
       go_ret
       rw [HR.out, HK.out]
       exact ⟨rfl, by repeat (first | exact HB5.out | apply pw_below_drewN)⟩
      have cfa : decide (0 ≤ f1) = true := decide_eq_true zfa
      by_cases zfb : f1 < 6
      case neg =>
       have cfb : decide (f1 < 6) = false := decide_eq_false zfb
       have HK : Aside0 ((true && (true && (idx f1 6 && (idx f2 6 && decide ((bd.length : Int) ≤ 24))))) = false) := ⟨by unfold idx; simp; omega⟩
       clear zfb
       go_wp2_with fail
       go_ret
       rw [HR.out, HK.out]
       exact ⟨rfl, by repeat (first | exact HB5.out | apply pw_below_drewN)⟩
      have cfb : decide (f1 < 6) = true := decide_eq_true zfb
      by_cases zfc : 0 ≤ f2
      case neg =>
       have cfc : decide (0 ≤ f2) = false := decide_eq_false zfc
       have HK : Aside0 ((true && (true && (idx f1 6 && (idx f2 6 && decide ((bd.length : Int) ≤ 24))))) = false) := ⟨by unfold idx; simp; omega⟩
       clear zfc
       go_wp2_with fail
       go_ret
       rw [HR.out, HK.out]
       exact ⟨rfl, by repeat (first | exact HB5.out | apply pw_below_drewN)⟩
      have cfc : decide (0 ≤ f2) = true := decide_eq_true zfc
      by_cases zfd : f2 < 6
      case neg =>
       have cfd : decide (f2 < 6) = false := decide_eq_false zfd
       have HK : Aside0 ((true && (true && (idx f1 6 && (idx f2 6 && decide ((bd.length : Int) ≤ 24))))) = false) := ⟨by unfold idx; simp; omega⟩
       clear zfd
       go_wp2_with fail
       go_ret
       rw [HR.out, HK.out]
       exact ⟨rfl, by repeat (first | exact HB5.out | apply pw_below_drewN)⟩
      have cfd : decide (f2 < 6) = true := decide_eq_true zfd
      have HK : Aside0 ((true && (true && (idx f1 6 && (idx f2 6 && decide ((bd.length : Int) ≤ 24))))) = decide ((bd.length : Int) ≤ 24)) := ⟨by rw [show idx f1 6 = true by unfold idx; exact decide_eq_true (by omega), show idx f2 6 = true by unfold idx; exact decide_eq_true (by omega)]; rfl⟩
      clear zfa zfb zfc zfd
      go_wp2_with fail
      go_ret
      rw [HR.out, HK.out]
      exact ⟨rfl, by repeat (first | exact HB5.out | apply pw_below_drewN)⟩
end Go.Proofs.YtaaifdclojkdmaaDoor.MFr
set_option linter.unusedVariables false
set_option linter.unusedSimpArgs false
set_option maxRecDepth 100000
namespace Go.Proofs.YtaaifdclojkdmaaDoor.MFr
open Go.RowKit Go.Proofs.YtaaifdclojkdmaaDoorW.PrintWords Go.Proofs.YtaaifdclojkdmaaDoorW.PrintLast Go.Proofs.YtaaifdclojkdmaaDoorW.PrintMore
set_option maxHeartbeats 16000000 in
theorem rmay5 (kf : Nat) (p n wt mk lk : Int) (fl : Bool) (cy of_ : Int) (A9 : Option Addr) (c9 : Nat) (ag : List Int) (f1 f2 sq : Int) (A13 : Option Addr) (c13 : Nat) (bd : List Int) (s : Bool) (w : World) (h9 : Kd.C (Kd.int .i64) w A9 ag.length ag) (q9 : ag.length ≤ c9) (h13 : Kd.C (Kd.int .u8) w A13 bd.length bd) (q13 : bd.length ≤ c13) (hp : 0 ≤ p ∧ p < 6) (hn : 0 ≤ n ∧ n < 12) (hS : drumlineref1_Same.f kf 5 p n wt mk lk fl cy of_ ag f1 f2 sq bd 5 p n 0 0 lk false 0 0 [] f1 f2 sq bd = some s) :
  Calls Tryd.prog 13 #[.agg #[.int .i64 5, .int .i64 p, .int .i64 n, .int .i64 wt, .int .i64 mk, .int .i64 lk, .bool fl, .int .i64 cy, .int .i64 of_, .slice A9 ag.length c9, .int .i64 f1, .int .i64 f2, .int .i64 sq, .slice A13 bd.length c13]] w fun e w' => e = .returned (.bool (s && (inr sq 1 2147483648 && restB wt mk lk cy of_ f1 f2 bd))) ∧ Below w.heap.size w w' := by
 have H9 := Aside0.mk h9
 have H13 := Aside0.mk h13
 have Q9 := Aside0.mk q9
 have Q13 := Aside0.mk q13
 have HS := Aside0.mk hS
 have c0 : decide (p < 0) = false := decide_eq_false (by omega)
 have c1 : decide (6 ≤ p) = false := decide_eq_false (by omega)
 have c2 : decide (n < 0) = false := decide_eq_false (by omega)
 have c3 : decide (12 ≤ n) = false := decide_eq_false (by omega)
 clear h9 h13 q9 q13 hS hp hn
 go_enter Tryd.func13, Tryd.ntmps13
 go_wp2_with fail
 have HB2 := Aside0.mk (below_alloc (Below.refl w.heap.size w) (.cells #[.int .i64 5, .int .i64 p, .int .i64 n, .int .i64 wt, .int .i64 mk, .int .i64 lk, .bool fl, .int .i64 cy, .int .i64 of_, .slice A9 ag.length c9, .int .i64 f1, .int .i64 f2, .int .i64 sq, .slice A13 bd.length c13] 25))
 have HP2 : Aside0 ((w.alloc (.cells #[.int .i64 5, .int .i64 p, .int .i64 n, .int .i64 wt, .int .i64 mk, .int .i64 lk, .bool fl, .int .i64 cy, .int .i64 of_, .slice A9 ag.length c9, .int .i64 f1, .int .i64 f2, .int .i64 sq, .slice A13 bd.length c13] 25)).heap[w.heap.size]? = some (.cells #[.int .i64 5, .int .i64 p, .int .i64 n, .int .i64 wt, .int .i64 mk, .int .i64 lk, .bool fl, .int .i64 cy, .int .i64 of_, .slice A9 ag.length c9, .int .i64 f1, .int .i64 f2, .int .i64 sq, .slice A13 bd.length c13] 25 (0, 0))) := ⟨heap_alloc_new _ _⟩
 generalize w.alloc (.cells #[.int .i64 5, .int .i64 p, .int .i64 n, .int .i64 wt, .int .i64 mk, .int .i64 lk, .bool fl, .int .i64 cy, .int .i64 of_, .slice A9 ag.length c9, .int .i64 f1, .int .i64 f2, .int .i64 sq, .slice A13 bd.length c13] 25) = w2 at *
 obtain ⟨b1, hb1⟩ : ∃ b1, b1 = w.heap.size := ⟨_, rfl⟩
 rw [← hb1] at HP2
 rw [← hb1]
 have HB1 := Aside0.mk hb1
 clear hb1
 obtain ⟨x0, x1, x2, x3, x4, x5, x6, x7, x8, x9, x10, x11, x12, x13⟩ := cellsK14 HP2.out
 go_region_with (first | (go_at_call 33; refine (spare5 p n wt mk lk fl cy of_ f1 f2 sq A9 ag.length c9 A13 bd.length c13 _).mono ?_; rintro e w3 ⟨rfl, hb⟩; have kf3 := HP2; have u_ := hb; have HBs := Aside0.mk (HB2.out.trans ((drew_below hb).mono HB2.out.size)); have HPs := Aside0.mk (((drew_below hb).block b1 (blk_lt HP2.out)).trans HP2.out); clear hb u_ kf3; have u0 : w3.cell? ⟨b1, 0, none⟩ = some (.int .i64 5) := (blk_cell HPs.out 0).trans rfl; have u1 : w3.cell? ⟨b1, 1, none⟩ = some (.int .i64 p) := (blk_cell HPs.out 1).trans rfl; have u2 : w3.cell? ⟨b1, 2, none⟩ = some (.int .i64 n) := (blk_cell HPs.out 2).trans rfl; have u3 : w3.cell? ⟨b1, 3, none⟩ = some (.int .i64 wt) := (blk_cell HPs.out 3).trans rfl; have u4 : w3.cell? ⟨b1, 4, none⟩ = some (.int .i64 mk) := (blk_cell HPs.out 4).trans rfl; have u5 : w3.cell? ⟨b1, 5, none⟩ = some (.int .i64 lk) := (blk_cell HPs.out 5).trans rfl; have u6 : w3.cell? ⟨b1, 6, none⟩ = some (.bool fl) := (blk_cell HPs.out 6).trans rfl; have u7 : w3.cell? ⟨b1, 7, none⟩ = some (.int .i64 cy) := (blk_cell HPs.out 7).trans rfl; have u8 : w3.cell? ⟨b1, 8, none⟩ = some (.int .i64 of_) := (blk_cell HPs.out 8).trans rfl; have u9 : w3.cell? ⟨b1, 9, none⟩ = some (.slice A9 ag.length c9) := (blk_cell HPs.out 9).trans rfl; have u10 : w3.cell? ⟨b1, 10, none⟩ = some (.int .i64 f1) := (blk_cell HPs.out 10).trans rfl; have u11 : w3.cell? ⟨b1, 11, none⟩ = some (.int .i64 f2) := (blk_cell HPs.out 11).trans rfl; have u12 : w3.cell? ⟨b1, 12, none⟩ = some (.int .i64 sq) := (blk_cell HPs.out 12).trans rfl; have u13 : w3.cell? ⟨b1, 13, none⟩ = some (.slice A13 bd.length c13) := (blk_cell HPs.out 13).trans rfl) | (go_at_call 16; refine (drumlineref1_Same.calls kf 5 p n wt mk lk fl cy of_ A9 c9 ag f1 f2 sq A13 c13 bd 5 p n 0 0 lk false 0 0 none 0 [] f1 f2 sq A13 c13 bd s _ (Kd.C_below H9.out HBs.out) Q9.out (Kd.C_below H13.out HBs.out) Q13.out (C_nil_ (Kd.int .i64) _) (Nat.le_refl 0) (Kd.C_below H13.out HBs.out) Q13.out HS.out).mono ?_; rintro e w4 ⟨rfl, hb⟩; have HB4 := Aside0.mk (below_step HBs.out hb); have HP4 := Aside0.mk ((hb.block b1 (blk_lt HPs.out)).trans HPs.out); clear hb))
 all_goals
  obtain ⟨y0, y1, y2, y3, y4, y5, y6, y7, y8, y9, y10, y11, y12, y13⟩ := cellsK14 HP4.out
  cases s with
  | false =>
   go_wp2_with fail
   go_ret
   exact ⟨rfl, HB4.out⟩
  | true =>
   by_cases zsa : sq < 1
   ·have csa : decide (sq < 1) = true := decide_eq_true zsa
    have HK : Aside0 ((inr sq 1 2147483648 && restB wt mk lk cy of_ f1 f2 bd) = false) := ⟨by rw [show inr sq 1 2147483648 = false by unfold inr; exact decide_eq_false (by omega)]; rfl⟩
    clear zsa
    go_wp2_with fail
    go_ret
    rw [HK.out]
    exact ⟨rfl, by repeat (first | exact HB4.out | apply pw_below_drewN)⟩
   have csa : decide (sq < 1) = false := decide_eq_false zsa
   by_cases zsb : 2147483648 < sq
   ·have csb : decide (2147483648 < sq) = true := decide_eq_true zsb
    have HK : Aside0 ((inr sq 1 2147483648 && restB wt mk lk cy of_ f1 f2 bd) = false) := ⟨by rw [show inr sq 1 2147483648 = false by unfold inr; exact decide_eq_false (by omega)]; rfl⟩
    clear zsb
    go_wp2_with fail
    go_ret
    rw [HK.out]
    exact ⟨rfl, by repeat (first | exact HB4.out | apply pw_below_drewN)⟩
   have csb : decide (2147483648 < sq) = false := decide_eq_false zsb
   by_cases zwa : wt < 0
   ·have cwa : decide (wt < 0) = true := decide_eq_true zwa
    have HK : Aside0 ((inr sq 1 2147483648 && restB wt mk lk cy of_ f1 f2 bd) = false) := ⟨by unfold restB inr idx; simp; omega⟩
    clear zwa
    go_wp2_with fail
    go_ret
    rw [HK.out]
    exact ⟨rfl, by repeat (first | exact HB4.out | apply pw_below_drewN)⟩
   have cwa : decide (wt < 0) = false := decide_eq_false zwa
   by_cases zwb : 60000 < wt
   ·have cwb : decide (60000 < wt) = true := decide_eq_true zwb
    have HK : Aside0 ((inr sq 1 2147483648 && restB wt mk lk cy of_ f1 f2 bd) = false) := ⟨by unfold restB inr idx; simp; omega⟩
    clear zwb
    go_wp2_with fail
    go_ret
    rw [HK.out]
    exact ⟨rfl, by repeat (first | exact HB4.out | apply pw_below_drewN)⟩
   have cwb : decide (60000 < wt) = false := decide_eq_false zwb
   by_cases zma : mk < 0
   ·have cma : decide (mk < 0) = true := decide_eq_true zma
    have HK : Aside0 ((inr sq 1 2147483648 && restB wt mk lk cy of_ f1 f2 bd) = false) := ⟨by unfold restB inr idx; simp; omega⟩
    clear zma
    go_wp2_with fail
    go_ret
    rw [HK.out]
    exact ⟨rfl, by repeat (first | exact HB4.out | apply pw_below_drewN)⟩
   have cma : decide (mk < 0) = false := decide_eq_false zma
   by_cases zmb : 4096 ≤ mk
   ·have cmb : decide (4096 ≤ mk) = true := decide_eq_true zmb
    have HK : Aside0 ((inr sq 1 2147483648 && restB wt mk lk cy of_ f1 f2 bd) = false) := ⟨by unfold restB inr idx; simp; omega⟩
    clear zmb
    go_wp2_with fail
    go_ret
    rw [HK.out]
    exact ⟨rfl, by repeat (first | exact HB4.out | apply pw_below_drewN)⟩
   have cmb : decide (4096 ≤ mk) = false := decide_eq_false zmb
   by_cases zla : lk < 0
   ·have cla : decide (lk < 0) = true := decide_eq_true zla
    have HK : Aside0 ((inr sq 1 2147483648 && restB wt mk lk cy of_ f1 f2 bd) = false) := ⟨by unfold restB inr idx; simp; omega⟩
    clear zla
    go_wp2_with fail
    go_ret
    rw [HK.out]
    exact ⟨rfl, by repeat (first | exact HB4.out | apply pw_below_drewN)⟩
   have cla : decide (lk < 0) = false := decide_eq_false zla
   by_cases zlb : 10 ≤ lk
   ·have clb : decide (10 ≤ lk) = true := decide_eq_true zlb
    have HK : Aside0 ((inr sq 1 2147483648 && restB wt mk lk cy of_ f1 f2 bd) = false) := ⟨by unfold restB inr idx; simp; omega⟩
    clear zlb
    go_wp2_with fail
    go_ret
    rw [HK.out]
    exact ⟨rfl, by repeat (first | exact HB4.out | apply pw_below_drewN)⟩
   have clb : decide (10 ≤ lk) = false := decide_eq_false zlb
   obtain ⟨tc, htc⟩ : ∃ r, inr cy 0 1099511627776 = r := ⟨_, rfl⟩
   obtain ⟨tt, htt⟩ : ∃ r, inr of_ (-1099511627776) 1099511627776 = r := ⟨_, rfl⟩
   have TC := Aside0.mk (rinr_is cy 0 1099511627776)
   have TT := Aside0.mk (rtime_is of_)
   rw [htc] at TC
   rw [htt] at TT
   have HR : Aside0 ((inr sq 1 2147483648 && restB wt mk lk cy of_ f1 f2 bd) = (tc && (tt && (idx f1 6 && (idx f2 6 && decide ((bd.length : Int) ≤ 24)))))) := ⟨by unfold restB; rw [htc, htt, show inr wt 0 60000 = true by unfold inr; exact decide_eq_true (by omega), show idx mk 4096 = true by unfold idx; exact decide_eq_true (by omega), show idx lk 10 = true by unfold idx; exact decide_eq_true (by omega)]; rw [show inr sq 1 2147483648 = true by unfold inr; exact decide_eq_true (by omega)]; simp⟩
   clear htc htt zsa zsb zwa zwb zma zmb zla zlb
   go_wp2_with fail
   refine (drumlineref1_within.calls cy 0 1099511627776 tc _ TC.out).mono ?_
   rintro e wd ⟨rfl, ⟨ma_, rfl⟩⟩
   cases tc with
   | false =>
    go_wp2_with fail
    go_ret
    rw [HR.out]
    exact ⟨rfl, by repeat (first | exact HB4.out | apply pw_below_drewN)⟩
   | true =>
    go_wp2_with fail
    refine (drumlineref1_Time.calls of_ tt _ TT.out).mono ?_
    rintro e wd ⟨rfl, ⟨mb_, rfl⟩⟩
    cases tt with
    | false =>
     go_wp2_with fail
     go_ret
     rw [HR.out]
     exact ⟨rfl, by repeat (first | exact HB4.out | apply pw_below_drewN)⟩
    | true =>
     by_cases zfa : 0 ≤ f1
     case neg =>
      have cfa : decide (0 ≤ f1) = false := decide_eq_false zfa
      have HK : Aside0 ((true && (true && (idx f1 6 && (idx f2 6 && decide ((bd.length : Int) ≤ 24))))) = false) := ⟨by unfold idx; simp; omega⟩
      clear zfa
      go_wp2_with fail
      go_ret
      rw [HR.out, HK.out]
      exact ⟨rfl, by repeat (first | exact HB4.out | apply pw_below_drewN)⟩
     have cfa : decide (0 ≤ f1) = true := decide_eq_true zfa
     by_cases zfb : f1 < 6
     case neg =>
      have cfb : decide (f1 < 6) = false := decide_eq_false zfb
      have HK : Aside0 ((true && (true && (idx f1 6 && (idx f2 6 && decide ((bd.length : Int) ≤ 24))))) = false) := ⟨by unfold idx; simp; omega⟩
      clear zfb
      go_wp2_with fail
      go_ret
      rw [HR.out, HK.out]
      exact ⟨rfl, by repeat (first | exact HB4.out | apply pw_below_drewN)⟩
     have cfb : decide (f1 < 6) = true := decide_eq_true zfb
     by_cases zfc : 0 ≤ f2
     case neg =>
      have cfc : decide (0 ≤ f2) = false := decide_eq_false zfc
      have HK : Aside0 ((true && (true && (idx f1 6 && (idx f2 6 && decide ((bd.length : Int) ≤ 24))))) = false) := ⟨by unfold idx; simp; omega⟩
      clear zfc
      go_wp2_with fail
      go_ret
      rw [HR.out, HK.out]
      exact ⟨rfl, by repeat (first | exact HB4.out | apply pw_below_drewN)⟩
     have cfc : decide (0 ≤ f2) = true := decide_eq_true zfc
     by_cases zfd : f2 < 6
     case neg =>
      have cfd : decide (f2 < 6) = false := decide_eq_false zfd
      have HK : Aside0 ((true && (true && (idx f1 6 && (idx f2 6 && decide ((bd.length : Int) ≤ 24))))) = false) := ⟨by unfold idx; simp; omega⟩
      clear zfd
      go_wp2_with fail
      go_ret
      rw [HR.out, HK.out]
      exact ⟨rfl, by repeat (first | exact HB4.out | apply pw_below_drewN)⟩
     have cfd : decide (f2 < 6) = true := decide_eq_true zfd
     have HK : Aside0 ((true && (true && (idx f1 6 && (idx f2 6 && decide ((bd.length : Int) ≤ 24))))) = decide ((bd.length : Int) ≤ 24)) := ⟨by rw [show idx f1 6 = true by unfold idx; exact decide_eq_true (by omega), show idx f2 6 = true by unfold idx; exact decide_eq_true (by omega)]; rfl⟩
     clear zfa zfb zfc zfd
     go_wp2_with fail
     go_ret
     rw [HR.out, HK.out]
     exact ⟨rfl, by repeat (first | exact HB4.out | apply pw_below_drewN)⟩
end Go.Proofs.YtaaifdclojkdmaaDoor.MFr
set_option linter.unusedVariables false
set_option linter.unusedSimpArgs false
set_option maxRecDepth 100000
namespace Go.Proofs.YtaaifdclojkdmaaDoor.MFr
open Go.RowKit Go.Proofs.YtaaifdclojkdmaaDoorW.PrintWords Go.Proofs.YtaaifdclojkdmaaDoorW.PrintLast Go.Proofs.YtaaifdclojkdmaaDoorW.PrintMore
def drumlineref1_May.f (kf : Nat) (k p n wt mk lk : Int) (fl : Bool) (cy of_ : Int) (ag : List Int) (f1 f2 sq : Int) (bd : List Int) : Option Bool :=
 if k < 1 ∨ 5 < k ∨ p < 0 ∨ 6 ≤ p ∨ n < 0 ∨ 12 ≤ n then some false
 else if k = 1 then (drumlineref1_Same.f kf 1 p n wt mk lk fl cy of_ ag f1 f2 sq bd 1 p n wt 0 0 false 0 0 [] 0 0 0 []).bind fun s => some (s && (restB wt mk lk cy of_ f1 f2 bd))
 else if k = 2 then (drumlineref1_Same.f kf 2 p n wt mk lk fl cy of_ ag f1 f2 sq bd 2 p n 0 mk 0 false cy 0 ag 0 0 0 []).bind fun s => (drumlineref1_ages.f kf ag).bind fun a => some (s && (a && restB wt mk lk cy of_ f1 f2 bd))
 else if k = 3 then (drumlineref1_Same.f kf 3 p n wt mk lk fl cy of_ ag f1 f2 sq bd 3 p n 0 0 lk fl cy of_ [] 0 0 0 []).bind fun s => some (s && (restB wt mk lk cy of_ f1 f2 bd))
 else if k = 4 then (drumlineref1_Same.f kf 4 p n wt mk lk fl cy of_ ag f1 f2 sq bd 4 p n 0 0 lk false 0 0 ag 0 0 0 []).bind fun s => (drumlineref1_ages.f kf ag).bind fun a => some (s && (a && restB wt mk lk cy of_ f1 f2 bd))
 else if k = 5 then (drumlineref1_Same.f kf 5 p n wt mk lk fl cy of_ ag f1 f2 sq bd 5 p n 0 0 lk false 0 0 [] f1 f2 sq bd).bind fun s => some (s && (inr sq 1 2147483648 && restB wt mk lk cy of_ f1 f2 bd))
 else none
theorem drumlineref1_May.calls (k : Nat) (a0_0 a0_1 a0_2 a0_3 a0_4 a0_5 : Int) (a0_6 : Bool) (a0_7 a0_8 : Int) (A0_9 : Option Addr) (c0_9 : Nat) (l0_9 : List Int) (a0_10 a0_11 a0_12 : Int) (A0_13 : Option Addr) (c0_13 : Nat) (l0_13 : List Int) (r : Bool) (w : World) (hr0_9 : Kd.C (Kd.int .i64) w A0_9 l0_9.length l0_9) (hc0_9 : l0_9.length ≤ c0_9) (hr0_13 : Kd.C (Kd.int .u8) w A0_13 l0_13.length l0_13) (hc0_13 : l0_13.length ≤ c0_13) (h : drumlineref1_May.f k a0_0 a0_1 a0_2 a0_3 a0_4 a0_5 a0_6 a0_7 a0_8 l0_9 a0_10 a0_11 a0_12 l0_13 = some r) :
  Calls Tryd.prog 13 #[.agg #[.int .i64 a0_0, .int .i64 a0_1, .int .i64 a0_2, .int .i64 a0_3, .int .i64 a0_4, .int .i64 a0_5, .bool a0_6, .int .i64 a0_7, .int .i64 a0_8, .slice A0_9 l0_9.length c0_9, .int .i64 a0_10, .int .i64 a0_11, .int .i64 a0_12, .slice A0_13 l0_13.length c0_13]] w fun e w' => e = .returned (.bool r) ∧ Below w.heap.size w w' := by
 unfold drumlineref1_May.f at h
 by_cases h0 : a0_0 < 1 ∨ 5 < a0_0 ∨ a0_1 < 0 ∨ 6 ≤ a0_1 ∨ a0_2 < 0 ∨ 12 ≤ a0_2
 ·rw [if_pos h0] at h
  obtain rfl := Option.some.inj h
  exact rmay_out a0_0 a0_1 a0_2 a0_3 a0_4 a0_5 a0_6 a0_7 a0_8 A0_9 c0_9 l0_9 a0_10 a0_11 a0_12 A0_13 c0_13 l0_13 w h0
 rw [if_neg h0] at h
 by_cases e1 : a0_0 = 1
 ·rw [if_pos e1] at h
  obtain ⟨s, hs, h⟩ := Option.bind_eq_some_iff.mp h
  subst e1
  obtain rfl := Option.some.inj h
  exact rmay1 k a0_1 a0_2 a0_3 a0_4 a0_5 a0_6 a0_7 a0_8 A0_9 c0_9 l0_9 a0_10 a0_11 a0_12 A0_13 c0_13 l0_13 s w hr0_9 hc0_9 hr0_13 hc0_13 (by omega) (by omega) hs
 rw [if_neg e1] at h
 by_cases e2 : a0_0 = 2
 ·rw [if_pos e2] at h
  obtain ⟨s, hs, h⟩ := Option.bind_eq_some_iff.mp h
  obtain ⟨a, ha, h⟩ := Option.bind_eq_some_iff.mp h
  subst e2
  obtain rfl := Option.some.inj h
  exact rmay2 k a0_1 a0_2 a0_3 a0_4 a0_5 a0_6 a0_7 a0_8 A0_9 c0_9 l0_9 a0_10 a0_11 a0_12 A0_13 c0_13 l0_13 s a w hr0_9 hc0_9 hr0_13 hc0_13 (by omega) (by omega) hs ha
 rw [if_neg e2] at h
 by_cases e3 : a0_0 = 3
 ·rw [if_pos e3] at h
  obtain ⟨s, hs, h⟩ := Option.bind_eq_some_iff.mp h
  subst e3
  obtain rfl := Option.some.inj h
  exact rmay3 k a0_1 a0_2 a0_3 a0_4 a0_5 a0_6 a0_7 a0_8 A0_9 c0_9 l0_9 a0_10 a0_11 a0_12 A0_13 c0_13 l0_13 s w hr0_9 hc0_9 hr0_13 hc0_13 (by omega) (by omega) hs
 rw [if_neg e3] at h
 by_cases e4 : a0_0 = 4
 ·rw [if_pos e4] at h
  obtain ⟨s, hs, h⟩ := Option.bind_eq_some_iff.mp h
  obtain ⟨a, ha, h⟩ := Option.bind_eq_some_iff.mp h
  subst e4
  obtain rfl := Option.some.inj h
  exact rmay4 k a0_1 a0_2 a0_3 a0_4 a0_5 a0_6 a0_7 a0_8 A0_9 c0_9 l0_9 a0_10 a0_11 a0_12 A0_13 c0_13 l0_13 s a w hr0_9 hc0_9 hr0_13 hc0_13 (by omega) (by omega) hs ha
 rw [if_neg e4] at h
 by_cases e5 : a0_0 = 5
 ·rw [if_pos e5] at h
  obtain ⟨s, hs, h⟩ := Option.bind_eq_some_iff.mp h
  subst e5
  obtain rfl := Option.some.inj h
  exact rmay5 k a0_1 a0_2 a0_3 a0_4 a0_5 a0_6 a0_7 a0_8 A0_9 c0_9 l0_9 a0_10 a0_11 a0_12 A0_13 c0_13 l0_13 s w hr0_9 hc0_9 hr0_13 hc0_13 (by omega) (by omega) hs
 rw [if_neg e5] at h
 cases h
theorem drumlineref1_May.mono : ∀ a0 a1 a2 a3 a4 a5 a6 a7 a8 a9 a10 a11 a12 a13 k, LeO (drumlineref1_May.f k a0 a1 a2 a3 a4 a5 a6 a7 a8 a9 a10 a11 a12 a13) (drumlineref1_May.f (k + 1) a0 a1 a2 a3 a4 a5 a6 a7 a8 a9 a10 a11 a12 a13) := by
 intro a0 a1 a2 a3 a4 a5 a6 a7 a8 a9 a10 a11 a12 a13 k
 unfold drumlineref1_May.f
 repeat' first
   | exact drumlineref1_Same.mono _ _ _ _ _ _ _ _ _ _ _ _ _ _ _ _ _ _ _ _ _ _ _ _ _ _ _ _ _
   | exact drumlineref1_ages.mono _ _
   | (with_reducible exact LeO.refl _)
   | (with_reducible exact LeO.none _)
   | (with_reducible refine LeO.ite ?_ ?_)
   | (with_reducible refine LeO.bind ?_ (fun _ => ?_))
   | exact LeO.refl _
   | refine LeO.ite ?_ ?_
   | refine LeO.bind ?_ (fun _ => ?_)
end Go.Proofs.YtaaifdclojkdmaaDoor.MFr
namespace Go.Proofs.YtaaifdclojkdmaaDoor.MFr
open Go.RowKit Go.Proofs.YtaaifdclojkdmaaDoorW.PrintWords Go.Proofs.YtaaifdclojkdmaaDoorW.PrintLast Go.Proofs.YtaaifdclojkdmaaDoorW.PrintMore
attribute [local go_sem] mp_u32s mp_u32m mp_u8s mp_u8m max2_int min2_int max_two min_two max_three min_three max_four min_four
set_option linter.unusedVariables false
set_option linter.unusedSimpArgs false
def wire_right.f (a0 : Int) : Option (Bool) := if a0 ≥ 1 then (some (decide (a0 ≤ 7))) else (some false)
set_option maxHeartbeats 8000000 in
set_option maxRecDepth 100000 in
theorem wire_right.calls (a0 : Int) (r : Bool) (w : World) (h : wire_right.f a0 = some r) :
  Calls Tryd.prog 64 #[.int .i64 a0] w fun e w' => e = .returned (.bool r) ∧ Drawn0 w w' := by
 have H : (if a0 ≥ 1 then (some (decide (a0 ≤ 7))) else (some false)) = some r := h
 clear h
 by_cases c2 : a0 ≥ 1
 ·rw [if_pos c2] at H
  have c2b0 : decide (1 ≤ a0) = true := decide_eq_true c2
  clear c2
  obtain rfl := Option.some.inj H
  go_enter Tryd.func64, Tryd.ntmps64
  go_wp2
  go_ret
  exact ⟨by first | rfl | (simp; done) | (simp [*]; done), by repeat (first | exact Drawn0.refl _ | apply Drawn0.step)⟩
 ·rw [if_neg c2] at H
  have c2b0 : decide (1 ≤ a0) = false := decide_eq_false c2
  clear c2
  obtain rfl := Option.some.inj H
  go_enter Tryd.func64, Tryd.ntmps64
  go_wp2
  go_ret
  exact ⟨by first | rfl | (simp; done) | (simp [*]; done), by repeat (first | exact Drawn0.refl _ | apply Drawn0.step)⟩
end Go.Proofs.YtaaifdclojkdmaaDoor.MFr
