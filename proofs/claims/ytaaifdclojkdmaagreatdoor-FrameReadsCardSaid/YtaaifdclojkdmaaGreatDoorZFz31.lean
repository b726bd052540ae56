/- Texts of this claim, laid together by a program (wip/e/merge2.py): MFrx81. -/
import Derived.Test.YtaaifdclojkdmaaGreatDoorZFz2
namespace Go.Proofs.YtaaifdclojkdmaaGreatDoor.MFr
open Go.RowKit Go.Proofs.YtaaifdclojkdmaaGreatDoorW.PrintWords Go.Proofs.YtaaifdclojkdmaaGreatDoorW.PrintLast Go.Proofs.YtaaifdclojkdmaaGreatDoorW.PrintMore
attribute [local go_sem] mp_u32s mp_u32m mp_u8s mp_u8m max2_int min2_int max_two min_two max_three min_three max_four min_four
set_option linter.unusedVariables false
set_option linter.unusedSimpArgs false
def drumlinelaw4_num.f (a0 : Int) : Option (Int) := some a0
set_option maxHeartbeats 8000000 in
set_option maxRecDepth 100000 in
theorem drumlinelaw4_num.calls (a0 : Int) (r : Int) (w : World) (h : drumlinelaw4_num.f a0 = some r) :
  Calls Tryz.prog 11 #[.int .i64 a0] w fun e w' => e = .returned (.int .i64 r) ∧ Drawn0 w w' := by
 have H : (some a0) = some r := h
 clear h
 obtain rfl := Option.some.inj H
 go_enter Tryz.func11, Tryz.ntmps11
 go_wp2
 go_ret
 exact ⟨by first | rfl | (simp; done) | (simp [*]; done), by repeat (first | exact Drawn0.refl _ | apply Drawn0.step)⟩
end Go.Proofs.YtaaifdclojkdmaaGreatDoor.MFr
