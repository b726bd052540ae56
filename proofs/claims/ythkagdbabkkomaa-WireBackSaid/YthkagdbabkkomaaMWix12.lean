/- Made for this claim by a program of this session (wip/mp.py). -/
import Derived.Test.YthkagdbabkkomaaHAl
import Derived.Test.YthkagdbabkkomaaMWix0
namespace Go.Proofs.Ythkagdbabkkomaa.MWi
open Go.RowKit Go.Proofs.YthkagdbabkkomaaW.PrintWords Go.Proofs.YthkagdbabkkomaaW.PrintLast Go.Proofs.YthkagdbabkkomaaW.PrintMore
attribute [local go_sem] mp_u32s mp_u32m mp_u8s mp_u8m max2_int min2_int max_two min_two max_three min_three max_four min_four   -- for this text's walks alone
set_option linter.unusedVariables false
set_option linter.unusedSimpArgs false

/-! ### drumlinelaw3_alive: function 25 -/
def drumlinelaw3_alive.f : Option (Bool) := some true
theorem drumlinelaw3_alive.calls (r : Bool) (w : World) (h : drumlinelaw3_alive.f = some r) :
    Calls Try.prog 25 #[] w fun e w' => e = .returned (.bool r) ∧ Below w.heap.size w w' := by
  cases Option.some.inj h
  exact HRd.alive_walk w

end Go.Proofs.Ythkagdbabkkomaa.MWi
