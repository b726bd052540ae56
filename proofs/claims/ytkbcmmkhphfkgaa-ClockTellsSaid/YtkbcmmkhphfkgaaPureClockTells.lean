/- Real and Local of the program are those of the document, for all numbers. No conditions. -/
import Derived.Test.YtkbcmmkhphfkgaaPClockTellsx1
import Derived.Test.YtkbcmmkhphfkgaaPlain
set_option linter.unusedVariables false
set_option linter.unusedSimpArgs false
namespace Go.Proofs.Ytkbcmmkhphfkgaa.Pure
open Go.RowKit Go.Proofs.Ytkbcmmkhphfkgaa.PClockTells Go.Proofs.YtkbcmmkhphfkgaaW.PrintWords Go.Proofs.YtkbcmmkhphfkgaaW.PrintLast Go.Proofs.YtkbcmmkhphfkgaaW.PrintMore Go.Proofs.Ytkbcmmkhphfkgaa.Plain

theorem alive_true : drumlinelaw8_alive.f = some true := by decide +kernel

theorem floor_eq {a b : Int} (h1 : -9223372036854775808 ≤ a) (h2 : a ≤ 9223372036854775807) : ticks_Floor.f a b = some (if b < 1 then (0, false) else (flo a b, true)) := by
  unfold ticks_Floor.f
  by_cases hb : b < 1
  · rw [if_pos hb, if_pos hb]
  · have ht := tdiv_le (a := a) (b := b) (by omega) h1 h2
    have hf := flo_bd (a := a) (b := b) (by omega) h1 h2
    have he := flo_trunc (a := a) (b := b) (by omega)
    rw [if_neg hb, if_neg (by omega), if_neg hb, w64 ht.1 ht.2]
    by_cases hm : Int.tmod a b < 0
    · rw [if_pos hm] at he ⊢
      rw [w64 (by omega) (by omega), he]
    · rw [if_neg hm] at he ⊢
      rw [he]

theorem scale_some (x p : Int) : ∃ r, ticks_Scale.f x p = some r := by
  unfold ticks_Scale.f ticks_Time.f
  have hf : ∃ r, ticks_Floor.f (wrap64 (x * p)) 1000000 = some r := by
    have := wf64 (wrap64_wf (x * p))
    rw [floor_eq this.1 this.2]; exact ⟨_, rfl⟩
  obtain ⟨r, hr⟩ := hf
  rw [hr]
  by_cases h : x ≥ -1099511627776
  · rw [if_pos h]
    simp only [Option.bind_some]
    split
    · split
      · exact ⟨_, rfl⟩
      · split <;> exact ⟨_, rfl⟩
    · exact ⟨_, rfl⟩
  · rw [if_neg h]
    exact ⟨_, rfl⟩
theorem real_some (x p : Int) : ∃ r, clock_Real.f x p = some r := by
  obtain ⟨r, hr⟩ := scale_some x p
  unfold clock_Real.f
  rw [hr]; exact ⟨_, rfl⟩
theorem local_some (x p : Int) : ∃ r, clock_Local.f x p = some r := by
  obtain ⟨r, hr⟩ := scale_some x p
  unfold clock_Local.f
  rw [hr]; exact ⟨_, rfl⟩

theorem ClockTells : drumlinelaw8_ClockTells.Pure := by
  intro x y p hx hy hp
  obtain ⟨a, ha⟩ := real_some x p
  obtain ⟨b, hb⟩ := local_some y p
  have e1 : drumlineref5_Real.f x p = clock_Real.f x p := rfl
  have e2 : drumlineref5_Local.f y p = clock_Local.f y p := rfl
  unfold drumlinelaw8_ClockTells.f
  rw [alive_true, e1, e2, ha, hb]
  simp

end Go.Proofs.Ytkbcmmkhphfkgaa.Pure
