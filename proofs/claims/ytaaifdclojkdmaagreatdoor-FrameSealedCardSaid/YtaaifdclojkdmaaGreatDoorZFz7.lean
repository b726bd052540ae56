/- Texts of this claim, laid together by a program (wip/e/merge2.py): HBr, MFrx1. -/
import Derived.Test.YtaaifdclojkdmaaGreatDoorZFz2
import Derived.BigRegion
set_option linter.unusedVariables false
set_option linter.unusedSimpArgs false
set_option maxRecDepth 100000
namespace Go.Proofs.YtaaifdclojkdmaaGreatDoor.MFr
open Go.RowKit Go.Proofs.YtaaifdclojkdmaaGreatDoorW.PrintWords Go.Proofs.YtaaifdclojkdmaaGreatDoorW.PrintLast Go.Proofs.YtaaifdclojkdmaaGreatDoorW.PrintMore
theorem second_blk (w : World) (a b c : Obj) : (((w.alloc a).alloc b).alloc c).heap[w.heap.size + 1]? = some b := by
 have h := heap_alloc_new (w.alloc a) b
 have hs : (w.alloc a).heap.size = w.heap.size + 1 := by simp
 rw [hs] at h
 rw [Below.heap_alloc _ _ _ (by simp)]
 exact h
set_option maxHeartbeats 40000000 in
theorem bare1 (p n wt mk lk : Int) (fl : Bool) (cy of_ f1 f2 sq : Int) (A9 : Option Addr) (n9 c9 : Nat) (A13 : Option Addr) (n13 c13 : Nat) (w : World) :
  Calls Tryz.prog 28 #[.agg #[.int .i64 1, .int .i64 p, .int .i64 n, .int .i64 wt, .int .i64 mk, .int .i64 lk, .bool fl, .int .i64 cy, .int .i64 of_, .slice A9 n9 c9, .int .i64 f1, .int .i64 f2, .int .i64 sq, .slice A13 n13 c13]] w fun e w' => e = .returned (.tuple #[.agg #[.int .i64 1, .int .i64 p, .int .i64 n, .int .i64 wt, .int .i64 0, .int .i64 0, .bool false, .int .i64 0, .int .i64 0, .slice none 0 0, .int .i64 0, .int .i64 0, .int .i64 0, .slice none 0 0], .bool true]) ∧ Below w.heap.size w w' := by
 go_enter Tryz.func28, Tryz.ntmps28
 go_wp2
 refine bodyPost_ret (results_ct rfl _ _ (w.heap.size + 1) 26 #[.int .i64 1, .int .i64 p, .int .i64 n, .int .i64 wt, .int .i64 0, .int .i64 0, .bool false, .int .i64 0, .int .i64 0, .slice none 0 0, .int .i64 0, .int .i64 0, .int .i64 0, .slice none 0 0] (0, 0) _ rfl ?_ Tryz.underlying26 rfl (by kernel_rfl)) rfl ?_
 ·exact second_blk w _ _ _
 ·exact ⟨rfl, by repeat (first | exact Below.refl _ _ | apply below_alloc | apply below_drew1)⟩
set_option maxHeartbeats 40000000 in
theorem bare2 (p n wt mk lk : Int) (fl : Bool) (cy of_ f1 f2 sq : Int) (A9 : Option Addr) (n9 c9 : Nat) (A13 : Option Addr) (n13 c13 : Nat) (w : World) :
  Calls Tryz.prog 28 #[.agg #[.int .i64 2, .int .i64 p, .int .i64 n, .int .i64 wt, .int .i64 mk, .int .i64 lk, .bool fl, .int .i64 cy, .int .i64 of_, .slice A9 n9 c9, .int .i64 f1, .int .i64 f2, .int .i64 sq, .slice A13 n13 c13]] w fun e w' => e = .returned (.tuple #[.agg #[.int .i64 2, .int .i64 p, .int .i64 n, .int .i64 0, .int .i64 mk, .int .i64 0, .bool false, .int .i64 cy, .int .i64 0, .slice A9 n9 c9, .int .i64 0, .int .i64 0, .int .i64 0, .slice none 0 0], .bool true]) ∧ Below w.heap.size w w' := by
 go_enter Tryz.func28, Tryz.ntmps28
 go_wp2
 go_region
 go_wp2
 refine bodyPost_ret (results_ct rfl _ _ (w.heap.size + 1) 26 #[.int .i64 2, .int .i64 p, .int .i64 n, .int .i64 0, .int .i64 mk, .int .i64 0, .bool false, .int .i64 cy, .int .i64 0, .slice A9 n9 c9, .int .i64 0, .int .i64 0, .int .i64 0, .slice none 0 0] (0, 0) _ rfl ?_ Tryz.underlying26 rfl (by kernel_rfl)) rfl ?_
 ·exact second_blk w _ _ _
 ·exact ⟨rfl, by repeat (first | exact Below.refl _ _ | apply below_alloc | apply below_drew1)⟩
set_option maxHeartbeats 40000000 in
theorem bare3 (p n wt mk lk : Int) (fl : Bool) (cy of_ f1 f2 sq : Int) (A9 : Option Addr) (n9 c9 : Nat) (A13 : Option Addr) (n13 c13 : Nat) (w : World) :
  Calls Tryz.prog 28 #[.agg #[.int .i64 3, .int .i64 p, .int .i64 n, .int .i64 wt, .int .i64 mk, .int .i64 lk, .bool fl, .int .i64 cy, .int .i64 of_, .slice A9 n9 c9, .int .i64 f1, .int .i64 f2, .int .i64 sq, .slice A13 n13 c13]] w fun e w' => e = .returned (.tuple #[.agg #[.int .i64 3, .int .i64 p, .int .i64 n, .int .i64 0, .int .i64 0, .int .i64 lk, .bool fl, .int .i64 cy, .int .i64 of_, .slice none 0 0, .int .i64 0, .int .i64 0, .int .i64 0, .slice none 0 0], .bool true]) ∧ Below w.heap.size w w' := by
 go_enter Tryz.func28, Tryz.ntmps28
 go_wp2
 go_region
 go_wp2
 refine bodyPost_ret (results_ct rfl _ _ (w.heap.size + 1) 26 #[.int .i64 3, .int .i64 p, .int .i64 n, .int .i64 0, .int .i64 0, .int .i64 lk, .bool fl, .int .i64 cy, .int .i64 of_, .slice none 0 0, .int .i64 0, .int .i64 0, .int .i64 0, .slice none 0 0] (0, 0) _ rfl ?_ Tryz.underlying26 rfl (by kernel_rfl)) rfl ?_
 ·exact second_blk w _ _ _
 ·exact ⟨rfl, by repeat (first | exact Below.refl _ _ | apply below_alloc | apply below_drew1)⟩
set_option maxHeartbeats 40000000 in
theorem bare4 (p n wt mk lk : Int) (fl : Bool) (cy of_ f1 f2 sq : Int) (A9 : Option Addr) (n9 c9 : Nat) (A13 : Option Addr) (n13 c13 : Nat) (w : World) :
  Calls Tryz.prog 28 #[.agg #[.int .i64 4, .int .i64 p, .int .i64 n, .int .i64 wt, .int .i64 mk, .int .i64 lk, .bool fl, .int .i64 cy, .int .i64 of_, .slice A9 n9 c9, .int .i64 f1, .int .i64 f2, .int .i64 sq, .slice A13 n13 c13]] w fun e w' => e = .returned (.tuple #[.agg #[.int .i64 4, .int .i64 p, .int .i64 n, .int .i64 0, .int .i64 0, .int .i64 lk, .bool false, .int .i64 0, .int .i64 0, .slice A9 n9 c9, .int .i64 0, .int .i64 0, .int .i64 0, .slice none 0 0], .bool true]) ∧ Below w.heap.size w w' := by
 go_enter Tryz.func28, Tryz.ntmps28
 go_wp2
 go_region
 go_wp2
 refine bodyPost_ret (results_ct rfl _ _ (w.heap.size + 1) 26 #[.int .i64 4, .int .i64 p, .int .i64 n, .int .i64 0, .int .i64 0, .int .i64 lk, .bool false, .int .i64 0, .int .i64 0, .slice A9 n9 c9, .int .i64 0, .int .i64 0, .int .i64 0, .slice none 0 0] (0, 0) _ rfl ?_ Tryz.underlying26 rfl (by kernel_rfl)) rfl ?_
 ·exact second_blk w _ _ _
 ·exact ⟨rfl, by repeat (first | exact Below.refl _ _ | apply below_alloc | apply below_drew1)⟩
set_option maxHeartbeats 40000000 in
theorem bare5 (p n wt mk lk : Int) (fl : Bool) (cy of_ f1 f2 sq : Int) (A9 : Option Addr) (n9 c9 : Nat) (A13 : Option Addr) (n13 c13 : Nat) (w : World) :
  Calls Tryz.prog 28 #[.agg #[.int .i64 5, .int .i64 p, .int .i64 n, .int .i64 wt, .int .i64 mk, .int .i64 lk, .bool fl, .int .i64 cy, .int .i64 of_, .slice A9 n9 c9, .int .i64 f1, .int .i64 f2, .int .i64 sq, .slice A13 n13 c13]] w fun e w' => e = .returned (.tuple #[.agg #[.int .i64 5, .int .i64 p, .int .i64 n, .int .i64 0, .int .i64 0, .int .i64 lk, .bool false, .int .i64 0, .int .i64 0, .slice none 0 0, .int .i64 f1, .int .i64 f2, .int .i64 sq, .slice A13 n13 c13], .bool true]) ∧ Below w.heap.size w w' := by
 go_enter Tryz.func28, Tryz.ntmps28
 go_wp2
 go_region
 go_wp2
 refine bodyPost_ret (results_ct rfl _ _ (w.heap.size + 1) 26 #[.int .i64 5, .int .i64 p, .int .i64 n, .int .i64 0, .int .i64 0, .int .i64 lk, .bool false, .int .i64 0, .int .i64 0, .slice none 0 0, .int .i64 f1, .int .i64 f2, .int .i64 sq, .slice A13 n13 c13] (0, 0) _ rfl ?_ Tryz.underlying26 rfl (by kernel_rfl)) rfl ?_
 ·exact second_blk w _ _ _
 ·exact ⟨rfl, by repeat (first | exact Below.refl _ _ | apply below_alloc | apply below_drew1)⟩
set_option maxHeartbeats 40000000 in
theorem bare0 (k : Int) (p n wt mk lk : Int) (fl : Bool) (cy of_ f1 f2 sq : Int) (A9 : Option Addr) (n9 c9 : Nat) (A13 : Option Addr) (n13 c13 : Nat) (w : World) (h : k < 1 ∨ 5 < k) :
  Calls Tryz.prog 28 #[.agg #[.int .i64 k, .int .i64 p, .int .i64 n, .int .i64 wt, .int .i64 mk, .int .i64 lk, .bool fl, .int .i64 cy, .int .i64 of_, .slice A9 n9 c9, .int .i64 f1, .int .i64 f2, .int .i64 sq, .slice A13 n13 c13]] w fun e w' => e = .returned (.tuple #[.agg #[.int .i64 0, .int .i64 0, .int .i64 0, .int .i64 0, .int .i64 0, .int .i64 0, .bool false, .int .i64 0, .int .i64 0, .slice none 0 0, .int .i64 0, .int .i64 0, .int .i64 0, .slice none 0 0], .bool false]) ∧ Below w.heap.size w w' := by
 have d1 : (k == 1) = false := beq_eq_false_iff_ne.mpr (by omega)
 have d2 : (k == 2) = false := beq_eq_false_iff_ne.mpr (by omega)
 have d3 : (k == 3) = false := beq_eq_false_iff_ne.mpr (by omega)
 have d4 : (k == 4) = false := beq_eq_false_iff_ne.mpr (by omega)
 have d5 : (k == 5) = false := beq_eq_false_iff_ne.mpr (by omega)
 clear h
 go_enter Tryz.func28, Tryz.ntmps28
 go_wp2
 refine bodyPost_ret (results_ct rfl _ _ (w.heap.size + 1) 26 #[.int .i64 0, .int .i64 0, .int .i64 0, .int .i64 0, .int .i64 0, .int .i64 0, .bool false, .int .i64 0, .int .i64 0, .slice none 0 0, .int .i64 0, .int .i64 0, .int .i64 0, .slice none 0 0] (0, 0) _ rfl ?_ Tryz.underlying26 rfl (by kernel_rfl)) rfl ?_
 ·exact second_blk w _ _ _
 ·exact ⟨rfl, by repeat (first | exact Below.refl _ _ | apply below_alloc | apply below_drew1)⟩
end Go.Proofs.YtaaifdclojkdmaaGreatDoor.MFr
namespace Go.Proofs.YtaaifdclojkdmaaGreatDoor.MFr
open Go.RowKit Go.Proofs.YtaaifdclojkdmaaGreatDoorW.PrintWords Go.Proofs.YtaaifdclojkdmaaGreatDoorW.PrintLast Go.Proofs.YtaaifdclojkdmaaGreatDoorW.PrintMore
attribute [local go_sem] mp_u32s mp_u32m mp_u8s mp_u8m max2_int min2_int max_two min_two max_three min_three max_four min_four
set_option linter.unusedVariables false
set_option linter.unusedSimpArgs false
def sum_step.l0 : Nat → Int → Int → Option (Int)
 | 0, _, _ => none
 | k + 1, x0, x3 => if x3 < 8 then (if (Go.bits .and .u32 x0 2147483648) = 0 then (sum_step.l0 k ((x0 * 2) % 4294967296) (wrap64 (x3 + 1))) else (sum_step.l0 k (Go.bits .xor .u32 ((x0 * 2) % 4294967296) 79764919) (wrap64 (x3 + 1)))) else (some x0)
def sum_step.f (k : Nat) (a0 : Int) : Option (Int) := sum_step.l0 k a0 0
theorem sum_step.mono_l : ∀ k, (∀ y0 y1, LeO (sum_step.l0 k y0 y1) (sum_step.l0 (k + 1) y0 y1))
 | 0 => fun _ _ r h => by simp [sum_step.l0] at h
 | k + 1 => by
  have ih0 := sum_step.mono_l k
  ·intro y0 y1
   unfold sum_step.l0
   repeat' first
   | (with_reducible exact ih0 _ _)
   | (with_reducible exact LeO.refl _)
   | (with_reducible exact LeO.none _)
   | (with_reducible refine LeO.ite ?_ ?_)
   | (with_reducible refine LeO.bind ?_ (fun _ => ?_))
   | exact ih0 _ _
   | exact LeO.none _
   | refine LeO.ite ?_ ?_
   | refine LeO.bind ?_ (fun _ => ?_)
theorem sum_step.mono : ∀ a0 k, LeO (sum_step.f k a0) (sum_step.f (k + 1) a0) := by
 intro a0 k
 have ih0 := sum_step.mono_l k
 unfold sum_step.f
 repeat' first
   | (with_reducible exact ih0 _ _)
   | (with_reducible exact LeO.refl _)
   | (with_reducible exact LeO.none _)
   | (with_reducible refine LeO.ite ?_ ?_)
   | (with_reducible refine LeO.bind ?_ (fun _ => ?_))
   | exact ih0 _ _
   | exact LeO.none _
   | refine LeO.ite ?_ ?_
   | refine LeO.bind ?_ (fun _ => ?_)
set_option maxHeartbeats 8000000 in
set_option maxRecDepth 100000 in
theorem sum_step.calls (k : Nat) (a0 : Int) (r : Int) (w : World) (h : sum_step.f k a0 = some r) :
  Calls Tryz.prog 85 #[.int .u32 a0] w fun e w' => e = .returned (.int .u32 r) ∧ Drawn0 w w' := by
 have H : (sum_step.l0 k a0 0) = some r := h
 clear h
 have H' := Aside0.mk H
 clear H
 go_enter Tryz.func85, Tryz.ntmps85
 go_wp2
 go_loopg [0, 3] k (fun kq v0 v3 w' => ∃ (x0_1 : Int) (x3_1 : Int), v0 = .int .u32 x0_1 ∧ v3 = .int .i64 x3_1 ∧ Aside0 (sum_step.l0 kq x0_1 x3_1 = some r) ∧ Aside0 (kq ≤ k) ∧ Drawn0 w w')
 case atStart => exact ⟨(a0), (0), (by first | rfl | (simp; done) | (simp [*]; done)), (by first | rfl | (simp; done) | (simp [*]; done)), H', ⟨Nat.le_refl _⟩, by repeat (first | exact Drawn0.refl _ | apply Drawn0.step)⟩
 case round =>
  clear H'
  obtain ⟨x0_1, x3_1, rfl, rfl, HA, HK1, ⟨m1, rfl⟩⟩ := hrel
  cases gk with
  | zero => exact absurd HA.out (by simp [sum_step.l0])
  | succ k1 =>
   have H := HA.out
   clear HA
   simp only [sum_step.l0] at H
   by_cases c2 : x3_1 < 8
   ·rw [if_pos c2] at H
    have c2b0 : decide (x3_1 < 8) = true := decide_eq_true c2
    clear c2
    by_cases c3 : (Go.bits .and .u32 x0_1 2147483648) = 0
    ·rw [if_pos c3] at H
     have c3b0 : ((Go.bits .and .u32 x0_1 2147483648) == 0) = true := beq_iff_eq.mpr c3
     have c3b1 : ((Go.bits .and .u32 x0_1 2147483648) != 0) = false := bne_eq_false_iff_eq.mpr c3
     clear c3
     have H' := Aside0.mk H
     clear H
     go_wp2
     go_roundg k1
     case measure => have := HK1.out; omega
     case rel => exact ⟨((x0_1 * 2) % 4294967296), (wrap64 (x3_1 + 1)), (by first | rfl | (simp; done) | (simp [*]; done)), (by first | rfl | (simp; done) | (simp [*]; done)), H', ⟨by have := HK1.out; omega⟩, by repeat (first | exact Drawn0.refl _ | apply Drawn0.step)⟩
    ·rw [if_neg c3] at H
     have c3b0 : ((Go.bits .and .u32 x0_1 2147483648) == 0) = false := beq_eq_false_iff_ne.mpr c3
     have c3b1 : ((Go.bits .and .u32 x0_1 2147483648) != 0) = true := bne_iff_ne.mpr c3
     have H' := Aside0.mk H
     clear H
     go_wp2
     go_roundg k1
     case measure => have := HK1.out; omega
     case rel => exact ⟨(Go.bits .xor .u32 ((x0_1 * 2) % 4294967296) 79764919), (wrap64 (x3_1 + 1)), (by first | rfl | (simp; done) | (simp [*]; done)), (by first | rfl | (simp; done) | (simp [*]; done)), H', ⟨by have := HK1.out; omega⟩, by repeat (first | exact Drawn0.refl _ | apply Drawn0.step)⟩
   ·rw [if_neg c2] at H
    have c2b0 : decide (x3_1 < 8) = false := decide_eq_false c2
    clear c2
    obtain rfl := Option.some.inj H
    go_wp2
    go_ret
    exact ⟨by first | rfl | (simp; done) | (simp [*]; done), by repeat (first | exact Drawn0.refl _ | apply Drawn0.step)⟩
end Go.Proofs.YtaaifdclojkdmaaGreatDoor.MFr
