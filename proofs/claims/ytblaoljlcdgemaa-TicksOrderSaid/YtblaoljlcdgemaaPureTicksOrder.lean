/- Clamp and Add of the program keep the order of what goes in. No conditions. -/
import Derived.Test.YtblaoljlcdgemaaPTicksOrderx1
import Derived.Test.YtblaoljlcdgemaaPlain
set_option linter.unusedVariables false
set_option linter.unusedSimpArgs false
namespace Go.Proofs.Ytblaoljlcdgemaa.Pure
open Go.RowKit Go.Proofs.Ytblaoljlcdgemaa.PTicksOrder Go.Proofs.YtblaoljlcdgemaaW.PrintWords Go.Proofs.YtblaoljlcdgemaaW.PrintLast Go.Proofs.YtblaoljlcdgemaaW.PrintMore Go.Proofs.Ytblaoljlcdgemaa.Plain

theorem alive_true : drumlinelaw1_alive.f 1 = some true := by decide +kernel
theorem alive_two : drumlinelaw1_alive.f 2 = some true := by decide +kernel

def sat (a b : Int) : Int := if a + b > 9223372036854775807 then 9223372036854775807 else if a + b < -9223372036854775808 then -9223372036854775808 else a + b
theorem add_eq {a b : Int} (k : Nat) (a1 : -9223372036854775808 ≤ a) (a2 : a ≤ 9223372036854775807) (b1 : -9223372036854775808 ≤ b) (b2 : b ≤ 9223372036854775807) : ticks_Add.f (k + 1) a b = some (sat a b) := by
  unfold ticks_Add.f sat
  simp only [ticks_Add.j0]
  by_cases h : b > 0
  · rw [if_pos h, w64 (x := 9223372036854775807 - b) (by omega) (by omega)]
    by_cases h2 : a > 9223372036854775807 - b
    · rw [decide_eq_true h2, if_pos rfl, if_pos (by omega)]
    · rw [decide_eq_false h2, if_neg (by simp), if_neg (by omega), w64 (x := a + b) (by omega) (by omega), if_neg (by omega), if_neg (by omega)]
  · rw [if_neg h, if_neg (by simp)]
    by_cases h2 : b < 0
    · rw [if_pos h2, w64 (x := -9223372036854775808 - b) (by omega) (by omega)]
      by_cases h3 : a < -9223372036854775808 - b
      · rw [if_pos h3, if_neg (by omega), if_pos (by omega)]
      · rw [if_neg h3, w64 (x := a + b) (by omega) (by omega), if_neg (by omega), if_neg (by omega)]
    · rw [if_neg h2, w64 (x := a + b) (by omega) (by omega), if_neg (by omega), if_neg (by omega)]
def cla (v m : Int) : Int := if m < 0 then 0 else if v < -m then -m else if v > m then m else v
theorem clamp_eq {v m : Int} (m2 : m ≤ 9223372036854775807) : ticks_Clamp.f v m = some (cla v m) := by
  unfold ticks_Clamp.f cla
  have hm : -9223372036854775808 ≤ -(mx 0 m) ∧ -(mx 0 m) ≤ 9223372036854775807 := by unfold mx; omega
  rw [w64 hm.1 hm.2]
  unfold mx mn
  congr 1
  split <;> split <;> split <;> (try split) <;> (try split) <;> omega

theorem TicksOrder : drumlinelaw1_TicksOrder.Pure := by
  intro v w m a hv hw hm ha
  obtain ⟨v1, v2⟩ := wf64 hv
  obtain ⟨w1, w2⟩ := wf64 hw
  obtain ⟨m1, m2⟩ := wf64 hm
  obtain ⟨a1, a2⟩ := wf64 ha
  refine ⟨1, ?_⟩
  have mono : ∀ x y : Int, x ≤ y → cla x m ≤ cla y m ∧ sat x a ≤ sat y a := by
    intro x y h
    unfold cla sat
    constructor <;> (repeat' split) <;> omega
  have comm : sat v a = sat a v := by unfold sat; rw [Int.add_comm]
  unfold drumlinelaw1_TicksOrder.f
  rw [alive_true, clamp_eq m2, clamp_eq m2, add_eq 0 v1 v2 a1 a2, add_eq 0 w1 w2 a1 a2, add_eq 0 a1 a2 v1 v2]
  simp only [Option.bind_some, if_true]
  by_cases h : v ≤ w
  · rw [if_pos h, if_pos (mono v w h).1, decide_eq_true (mono v w h).2]
  · have := mono w v (by omega)
    rw [if_neg h, if_pos this.1, if_pos this.2, comm]
    simp

end Go.Proofs.Ytblaoljlcdgemaa.Pure
