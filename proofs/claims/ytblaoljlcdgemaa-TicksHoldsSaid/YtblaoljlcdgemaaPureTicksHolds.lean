/- Clamp and Add of the program are those of the document, for all 64-bit numbers. No conditions. -/
import Derived.Test.YtblaoljlcdgemaaPTicksHoldsx1
import Derived.Test.YtblaoljlcdgemaaPlain
set_option linter.unusedVariables false
set_option linter.unusedSimpArgs false
namespace Go.Proofs.Ytblaoljlcdgemaa.Pure
open Go.RowKit Go.Proofs.Ytblaoljlcdgemaa.PTicksHolds Go.Proofs.YtblaoljlcdgemaaW.PrintWords Go.Proofs.YtblaoljlcdgemaaW.PrintLast Go.Proofs.YtblaoljlcdgemaaW.PrintMore Go.Proofs.Ytblaoljlcdgemaa.Plain

theorem alive_true : drumlinelaw1_alive.f 1 = some true := by decide +kernel
theorem alive_two : drumlinelaw1_alive.f 2 = some true := by decide +kernel

def sat (a b : Int) : Int := if a + b > 9223372036854775807 then 9223372036854775807 else if a + b < -9223372036854775808 then -9223372036854775808 else a + b
theorem add_eq {a b : Int} (k : Nat) (a1 : -9223372036854775808 ≤ a) (a2 : a ≤ 9223372036854775807) (b1 : -9223372036854775808 ≤ b) (b2 : b ≤ 9223372036854775807) : ticks_Add.f (k + 1) a b = some (sat a b) := by
  unfold ticks_Add.f sat
  simp only [ticks_Add.j0]
  by_cases h : b > 0
  · rw [if_pos h, w64 (x := 9223372036854775807 - b) (by omega) (by omega)]
    by_cases h2 : a > 9223372036854775807 - b
    · rw [decide_eq_true h2, if_pos rfl, if_pos (by omega)]
    · rw [decide_eq_false h2, if_neg (by simp), if_neg (by omega), w64 (x := a + b) (by omega) (by omega), if_neg (by omega), if_neg (by omega)]
  · rw [if_neg h, if_neg (by simp)]
    by_cases h2 : b < 0
    · rw [if_pos h2, w64 (x := -9223372036854775808 - b) (by omega) (by omega)]
      by_cases h3 : a < -9223372036854775808 - b
      · rw [if_pos h3, if_neg (by omega), if_pos (by omega)]
      · rw [if_neg h3, w64 (x := a + b) (by omega) (by omega), if_neg (by omega), if_neg (by omega)]
    · rw [if_neg h2, w64 (x := a + b) (by omega) (by omega), if_neg (by omega), if_neg (by omega)]
def cla (v m : Int) : Int := if m < 0 then 0 else if v < -m then -m else if v > m then m else v
theorem clamp_eq {v m : Int} (m2 : m ≤ 9223372036854775807) : ticks_Clamp.f v m = some (cla v m) := by
  unfold ticks_Clamp.f cla
  have hm : -9223372036854775808 ≤ -(mx 0 m) ∧ -(mx 0 m) ≤ 9223372036854775807 := by unfold mx; omega
  rw [w64 hm.1 hm.2]
  unfold mx mn
  congr 1
  split <;> split <;> split <;> (try split) <;> (try split) <;> omega

theorem ref_clamp {v m : Int} (k : Nat) (m2 : m ≤ 9223372036854775807) : drumlineref1_Clamp.f (k + 1) v m = some (cla v m) := by
  unfold drumlineref1_Clamp.f cla
  simp only [drumlineref1_Clamp.j0]
  by_cases h : m < 0
  · rw [if_pos h, if_pos h]
    have e : wrap64 (-0) = 0 := by decide +kernel
    rw [e]
    by_cases h1 : v < 0
    · rw [if_pos h1]
    · rw [if_neg h1]
      by_cases h2 : v > 0
      · rw [if_pos h2]
      · rw [if_neg h2, show v = 0 by omega]
  · rw [if_neg h, if_neg h, w64 (x := -m) (by omega) (by omega)]
    split
    · rfl
    · split <;> rfl
theorem TicksHolds : drumlinelaw1_TicksHolds.Pure := by
  intro v m a b hv hm ha hb
  obtain ⟨m1, m2⟩ := wf64 hm
  obtain ⟨a1, a2⟩ := wf64 ha
  obtain ⟨b1, b2⟩ := wf64 hb
  refine ⟨1, ?_⟩
  have e : drumlineref1_Add.f 1 a b = ticks_Add.f 1 a b := rfl
  unfold drumlinelaw1_TicksHolds.f
  rw [alive_true, clamp_eq m2, ref_clamp 0 m2, e, add_eq 0 a1 a2 b1 b2]
  simp

end Go.Proofs.Ytblaoljlcdgemaa.Pure
