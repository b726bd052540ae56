/- Texts of this claim, laid together by a program (wip/e/merge2.py): MFrx2. -/
import Derived.Test.YtaaifdclojkdmaaGreatDoorZFz2
import Derived.Test.YtaaifdclojkdmaaGreatDoorZFz7
namespace Go.Proofs.YtaaifdclojkdmaaGreatDoor.MFr
open Go.RowKit Go.Proofs.YtaaifdclojkdmaaGreatDoorW.PrintWords Go.Proofs.YtaaifdclojkdmaaGreatDoorW.PrintLast Go.Proofs.YtaaifdclojkdmaaGreatDoorW.PrintMore
attribute [local go_sem] mp_u32s mp_u32m mp_u8s mp_u8m max2_int min2_int max_two min_two max_three min_three max_four min_four
set_option linter.unusedVariables false
set_option linter.unusedSimpArgs false
def sum_More.l0 : Nat → Int → List Int → Int → Int → Option (Int)
 | 0, _, _, _, _ => none
 | k + 1, x5, x10, x11, x12 => if x12 < x11 then (if 0 ≤ x12 then (if x12 < (x10.length : Int) then ((sum_step.f k (Go.bits .xor .u32 x5 ((((rd x10 x12) % 4294967296) * 16777216) % 4294967296))).bind fun t102 => (sum_More.l0 k t102 x10 x11 (wrap64 (x12 + 1)))) else (none)) else (none)) else (some (Go.bits .xor .u32 4294967295 x5))
def sum_More.f (k : Nat) (a0 : Int) (l1 : List Int) : Option (Int) := sum_More.l0 k (Go.bits .xor .u32 4294967295 a0) l1 (l1.length : Int) 0
theorem sum_More.mono_l : ∀ k, (∀ y0 y1 y2 y3, LeO (sum_More.l0 k y0 y1 y2 y3) (sum_More.l0 (k + 1) y0 y1 y2 y3))
 | 0 => fun _ _ _ _ r h => by simp [sum_More.l0] at h
 | k + 1 => by
  have ih0 := sum_More.mono_l k
  ·intro y0 y1 y2 y3
   unfold sum_More.l0
   repeat' first
   | (with_reducible exact ih0 _ _ _ _)
   | (with_reducible exact sum_step.mono _ _)
   | (with_reducible exact LeO.refl _)
   | (with_reducible exact LeO.none _)
   | (with_reducible refine LeO.ite ?_ ?_)
   | (with_reducible refine LeO.bind ?_ (fun _ => ?_))
   | exact ih0 _ _ _ _
   | exact sum_step.mono _ _
   | exact LeO.none _
   | refine LeO.ite ?_ ?_
   | refine LeO.bind ?_ (fun _ => ?_)
theorem sum_More.mono : ∀ a0 a1 k, LeO (sum_More.f k a0 a1) (sum_More.f (k + 1) a0 a1) := by
 intro a0 a1 k
 have ih0 := sum_More.mono_l k
 unfold sum_More.f
 repeat' first
   | (with_reducible exact ih0 _ _ _ _)
   | (with_reducible exact sum_step.mono _ _)
   | (with_reducible exact LeO.refl _)
   | (with_reducible exact LeO.none _)
   | (with_reducible refine LeO.ite ?_ ?_)
   | (with_reducible refine LeO.bind ?_ (fun _ => ?_))
   | exact ih0 _ _ _ _
   | exact sum_step.mono _ _
   | exact LeO.none _
   | refine LeO.ite ?_ ?_
   | refine LeO.bind ?_ (fun _ => ?_)
set_option maxHeartbeats 8000000 in
set_option maxRecDepth 100000 in
theorem sum_More.calls (k : Nat) (a0 : Int) (A1 : Option Addr) (c1 : Nat) (l1 : List Int) (r : Int) (w : World) (hr1 : Kd.C (Kd.int .u8) w A1 l1.length l1) (hc1 : l1.length ≤ c1) (h : sum_More.f k a0 l1 = some r) :
  Calls Tryz.prog 76 #[.int .u32 a0, .slice A1 l1.length c1] w fun e w' => e = .returned (.int .u32 r) ∧ Drawn0 w w' := by
 have HR1 := Aside0.mk hr1
 have HC1 := Aside0.mk hc1
 clear hr1 hc1
 have H : (sum_More.l0 k (Go.bits .xor .u32 4294967295 a0) l1 (l1.length : Int) 0) = some r := h
 clear h
 have H' := Aside0.mk H
 clear H
 go_enter Tryz.func76, Tryz.ntmps76
 go_wp2
 go_loopg [5, 12] k (fun kq v5 v12 w' => ∃ (x5_1 : Int) (x12_1 : Int), v5 = .int .u32 x5_1 ∧ v12 = .int .i64 x12_1 ∧ Aside0 (sum_More.l0 kq x5_1 l1 (l1.length : Int) x12_1 = some r) ∧ Aside0 (kq ≤ k) ∧ Drawn0 w w')
 case atStart => exact ⟨(Go.bits .xor .u32 4294967295 a0), (0), (by first | rfl | (simp; done) | (simp [*]; done)), (by first | rfl | (simp; done) | (simp [*]; done)), H', ⟨Nat.le_refl _⟩, by repeat (first | exact Drawn0.refl _ | apply Drawn0.step)⟩
 case round =>
  clear H'
  try clear c1
  try clear p2
  obtain ⟨x5_1, x12_1, rfl, rfl, HA, HK1, ⟨m1, rfl⟩⟩ := hrel
  cases gk with
  | zero => exact absurd HA.out (by simp [sum_More.l0])
  | succ k1 =>
   have H := HA.out
   clear HA
   simp only [sum_More.l0] at H
   by_cases c3 : x12_1 < (l1.length : Int)
   ·rw [if_pos c3] at H
    have c3b0 : decide (x12_1 < (l1.length : Int)) = true := decide_eq_true c3
    clear c3
    by_cases c4 : 0 ≤ x12_1
    ·rw [if_pos c4] at H
     have c4b0 : decide (0 ≤ x12_1) = true := decide_eq_true c4
     clear c4
     by_cases c5 : x12_1 < (l1.length : Int)
     ·rw [if_pos c5] at H
      have c5b0 : decide (x12_1 < (l1.length : Int)) = true := decide_eq_true c5
      clear c5
      replace H := Option.bind_eq_some_iff.mp H
      obtain ⟨t102, A60, H⟩ := H
      replace H : (sum_More.l0 k1 t102 l1 (l1.length : Int) (wrap64 (x12_1 + 1))) = some r := H
      have A6 := Aside0.mk A60
      clear A60
      have H' := Aside0.mk H
      clear H
      have p101 : 0 ≤ (x12_1 : Int) := of_decide_eq_true (by first | (with_reducible assumption) | assumption)
      have q101 : x12_1 < (l1.length : Int) := of_decide_eq_true (by first | (with_reducible assumption) | assumption)
      obtain ⟨ad101, e101, hx101_0⟩ := Kd.at_int HR1.out x12_1 p101 q101
      cases e101
      replace p101 := eq_true p101
      replace q101 := eq_true q101
      go_wp2_with (first | ((with_reducible refine gate_callee (f := 85) rfl ?_); refine goesL_ (some 21) rfl rfl Tryz.func85 (by kernel_rfl) rfl #[.int .u32 (Go.bits .xor .u32 x5_1 ((((rd l1 x12_1) % 4294967296) * 16777216) % 4294967296))] rfl (by (try simp only [List.map_toArray, List.map_cons, List.map_nil]); first | done | rfl | (simp only [List.length_drop, List.length_take]; rfl)) ?_; (with_reducible refine (sum_step.calls k1 (Go.bits .xor .u32 x5_1 ((((rd l1 x12_1) % 4294967296) * 16777216) % 4294967296)) t102 _ A6.out).mono ?_); rintro e w' ⟨rfl, ⟨nd, rfl⟩⟩; refine ⟨_, rfl, ?_⟩))
      go_roundg k1
      case measure => have := HK1.out; omega
      case rel => exact ⟨(t102), (wrap64 (x12_1 + 1)), (by first | rfl | (simp; done) | (simp [*]; done)), (by first | rfl | (simp; done) | (simp [*]; done)), H', ⟨by have := HK1.out; omega⟩, by repeat (first | exact Drawn0.refl _ | apply Drawn0.step)⟩
     ·rw [if_neg c5] at H
      exact absurd H (by simp)
    ·rw [if_neg c4] at H
     exact absurd H (by simp)
   ·rw [if_neg c3] at H
    have c3b0 : decide (x12_1 < (l1.length : Int)) = false := decide_eq_false c3
    clear c3
    obtain rfl := Option.some.inj H
    go_wp2
    go_ret
    exact ⟨by first | rfl | (simp; done) | (simp [*]; done), by repeat (first | exact Drawn0.refl _ | apply Drawn0.step)⟩
end Go.Proofs.YtaaifdclojkdmaaGreatDoor.MFr
