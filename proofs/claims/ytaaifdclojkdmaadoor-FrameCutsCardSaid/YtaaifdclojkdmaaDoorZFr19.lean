/- Texts of this claim, laid together by a program (wip/e/merge2.py): HIn, MFrx15. -/
import Derived.Test.YtaaifdclojkdmaaDoorZFr17
import Derived.Test.YtaaifdclojkdmaaDoorZFr2
set_option linter.unusedVariables false
set_option linter.unusedSimpArgs false
set_option maxRecDepth 100000
namespace Go.Proofs.YtaaifdclojkdmaaDoor.MFr
open Go.RowKit Go.Proofs.YtaaifdclojkdmaaDoorW.PrintWords Go.Proofs.YtaaifdclojkdmaaDoorW.PrintLast Go.Proofs.YtaaifdclojkdmaaDoorW.PrintMore Go.Proofs.YtaaifdclojkdmaaDoor.Wire Go.Proofs.YtaaifdclojkdmaaDoor.PSum
def isBys (l : List Int) : Bool := l.all (fun x => decide (0 ≤ x ∧ x ≤ 255))
theorem isBys_of {l : List Int} (h : isBys l = true) : Bys l := fun x hx => of_decide_eq_true (List.all_eq_true.mp h x hx)
def frame_Decode.f (l : List Int) : Option (Int × Int × Int × Int × Int × Int × Bool × Int × Int × List Int × Int × Int × Int × List Int × Int) :=
 if l.length ≤ 100000 ∧ isBys l = true then some ((parseF l).1.k, (parseF l).1.p, (parseF l).1.n, (parseF l).1.wt, (parseF l).1.msk, (parseF l).1.lk, (parseF l).1.fl, (parseF l).1.cy, (parseF l).1.of_, (parseF l).1.ag, (parseF l).1.f1, (parseF l).1.f2, (parseF l).1.sq, (parseF l).1.bd, (parseF l).2.1) else none
theorem frame_Decode.calls (A0 : Option Addr) (c0 : Nat) (l0 : List Int) (r1 r2 r3 r4 r5 r6 : Int) (r7 : Bool) (r8 r9 : Int) (r10 : List Int) (r11 r12 r13 : Int) (r14 : List Int) (r15 : Int) (w : World) (hr0 : Kd.C (Kd.int .u8) w A0 l0.length l0) (hc0 : l0.length ≤ c0) (h : frame_Decode.f l0 = some (r1, r2, r3, r4, r5, r6, r7, r8, r9, r10, r11, r12, r13, r14, r15)) :
  Calls Tryd.prog 17 #[.slice A0 l0.length c0] w fun e w' => ∃ v9_ v13_ : Value, e = .returned (.tuple #[.agg #[.int .i64 r1, .int .i64 r2, .int .i64 r3, .int .i64 r4, .int .i64 r5, .int .i64 r6, .bool r7, .int .i64 r8, .int .i64 r9, v9_, .int .i64 r11, .int .i64 r12, .int .i64 r13, v13_], .int .i64 r15]) ∧ Kd.R (Kd.int .i64) 3 w' w.heap.size (fun _ => True) v9_ r10 ∧ Kd.R (Kd.int .u8) 5 w' w.heap.size (fun _ => True) v13_ r14 ∧ Below w.heap.size w w' := by
 unfold frame_Decode.f at h
 split at h
 case isFalse => cases h
 rename_i hc
 simp only [Option.some.injEq, Prod.mk.injEq] at h
 obtain ⟨rfl, rfl, rfl, rfl, rfl, rfl, rfl, rfl, rfl, rfl, rfl, rfl, rfl, rfl, rfl⟩ := h
 refine (decode_walk A0 c0 l0 w hr0 hc0 hc.1 (isBys_of hc.2) (show parseF l0 = (⟨(parseF l0).1.k, (parseF l0).1.p, (parseF l0).1.n, (parseF l0).1.wt, (parseF l0).1.msk, (parseF l0).1.lk, (parseF l0).1.fl, (parseF l0).1.cy, (parseF l0).1.of_, (parseF l0).1.ag, (parseF l0).1.f1, (parseF l0).1.f2, (parseF l0).1.sq, (parseF l0).1.bd⟩, (parseF l0).2.1, (parseF l0).2.2) from rfl)).mono ?_
 rintro e w' ⟨A9, c9, A13, c13, rfl, h9, h13, hb⟩
 exact ⟨_, _, rfl, h9, h13, hb⟩
def frame_Why.f (l : List Int) : Option (Int × Int) := if l.length ≤ 100000 ∧ isBys l = true then some ((parseF l).2.1, (parseF l).2.2) else none
theorem frame_Why.calls (A0 : Option Addr) (c0 : Nat) (l0 : List Int) (r1 r2 : Int) (w : World) (hr0 : Kd.C (Kd.int .u8) w A0 l0.length l0) (hc0 : l0.length ≤ c0) (h : frame_Why.f l0 = some (r1, r2)) (hG : Gv w := by first | exact HG.out | exact HG.out.below (by repeat (first | exact HB.out | apply below_alloc | apply pw_below_drewN | apply below_drew1))) :
  Calls Tryd.prog 19 #[.slice A0 l0.length c0] w fun e w' => e = .returned (.tuple #[.int .i64 r1, .int .i64 r2]) ∧ Below w.heap.size w w' := by
 unfold frame_Why.f at h
 split at h
 case isFalse => cases h
 rename_i hc
 simp only [Option.some.injEq, Prod.mk.injEq] at h
 obtain ⟨rfl, rfl⟩ := h
 exact why_walk A0 c0 l0 w hr0 hc0 hc.1 (isBys_of hc.2) (show parseF l0 = (⟨(parseF l0).1.k, (parseF l0).1.p, (parseF l0).1.n, (parseF l0).1.wt, (parseF l0).1.msk, (parseF l0).1.lk, (parseF l0).1.fl, (parseF l0).1.cy, (parseF l0).1.of_, (parseF l0).1.ag, (parseF l0).1.f1, (parseF l0).1.f2, (parseF l0).1.sq, (parseF l0).1.bd⟩, (parseF l0).2.1, (parseF l0).2.2) from rfl) hG
end Go.Proofs.YtaaifdclojkdmaaDoor.MFr
namespace Go.Proofs.YtaaifdclojkdmaaDoor.MFr
open Go.RowKit Go.Proofs.YtaaifdclojkdmaaDoorW.PrintWords Go.Proofs.YtaaifdclojkdmaaDoorW.PrintLast Go.Proofs.YtaaifdclojkdmaaDoorW.PrintMore
attribute [local go_sem] mp_u32s mp_u32m mp_u8s mp_u8m max2_int min2_int max_two min_two max_three min_three max_four min_four
set_option linter.unusedVariables false
set_option linter.unusedSimpArgs false
def frame_bit.f (a0 : Bool) : Option (Int) := if a0 = true then (some 1) else (some 0)
set_option maxHeartbeats 8000000 in
set_option maxRecDepth 100000 in
theorem frame_bit.calls (a0 : Bool) (r : Int) (w : World) (h : frame_bit.f a0 = some r) :
  Calls Tryd.prog 22 #[.bool a0] w fun e w' => e = .returned (.int .i64 r) ∧ Drawn0 w w' := by
 have H : (if a0 = true then (some 1) else (some 0)) = some r := h
 clear h
 by_cases c2 : a0 = true
 ·subst c2
  have H1 : (some 1) = some r := by rw [if_pos rfl] at H; exact H
  clear H
  have H := H1
  clear H1
  obtain rfl := Option.some.inj H
  go_enter Tryd.func22, Tryd.ntmps22
  go_wp2
  go_ret
  exact ⟨by first | rfl | (simp; done) | (simp [*]; done), by repeat (first | exact Drawn0.refl _ | apply Drawn0.step)⟩
 ·replace c2 := Bool.eq_false_iff.mpr c2
  subst c2
  have H1 : (some 0) = some r := by rw [if_neg (show ¬ (false = true) by decide)] at H; exact H
  clear H
  have H := H1
  clear H1
  obtain rfl := Option.some.inj H
  go_enter Tryd.func22, Tryd.ntmps22
  go_wp2
  go_ret
  exact ⟨by first | rfl | (simp; done) | (simp [*]; done), by repeat (first | exact Drawn0.refl _ | apply Drawn0.step)⟩
end Go.Proofs.YtaaifdclojkdmaaDoor.MFr
