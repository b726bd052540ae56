/- Floor and Ceil of the program are those of the document, for every two 64-bit numbers. No conditions. -/
import Derived.Test.YtblaoljlcdgemaaPTicksRoundsx1
import Derived.Test.YtblaoljlcdgemaaPlain
set_option linter.unusedVariables false
set_option linter.unusedSimpArgs false
namespace Go.Proofs.Ytblaoljlcdgemaa.Pure
open Go.RowKit Go.Proofs.Ytblaoljlcdgemaa.PTicksRounds Go.Proofs.YtblaoljlcdgemaaW.PrintWords Go.Proofs.YtblaoljlcdgemaaW.PrintLast Go.Proofs.YtblaoljlcdgemaaW.PrintMore Go.Proofs.Ytblaoljlcdgemaa.Plain

theorem alive_true : drumlinelaw1_alive.f 1 = some true := by decide +kernel
theorem alive_two : drumlinelaw1_alive.f 2 = some true := by decide +kernel

theorem floor_some (a b : Int) : ∃ r, ticks_Floor.f a b = some r := by
  unfold ticks_Floor.f
  by_cases h : b < 1
  · exact ⟨_, if_pos h⟩
  · rw [if_neg h, if_neg (by omega)]; split <;> exact ⟨_, rfl⟩
theorem ceil_some (a b : Int) : ∃ r, ticks_Ceil.f a b = some r := by
  unfold ticks_Ceil.f
  by_cases h : b < 1
  · exact ⟨_, if_pos h⟩
  · rw [if_neg h, if_neg (by omega)]; split <;> exact ⟨_, rfl⟩
theorem TicksRounds : drumlinelaw1_TicksRounds.Pure := by
  intro a b ha hb
  refine ⟨1, ?_⟩
  have e1 : drumlineref1_Floor.f a b = ticks_Floor.f a b := rfl
  have e2 : drumlineref1_Ceil.f a b = ticks_Ceil.f a b := rfl
  obtain ⟨p, hp⟩ := floor_some a b
  obtain ⟨q, hq⟩ := ceil_some a b
  unfold drumlinelaw1_TicksRounds.f
  rw [alive_true, e1, e2, hp, hq]
  simp

end Go.Proofs.Ytblaoljlcdgemaa.Pure
