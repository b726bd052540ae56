/- Reading of the program is that of the document, for all numbers. No conditions. -/
import Derived.Test.YtkbcmmkhphfkgaaPClockReadsx2
import Derived.Test.YtkbcmmkhphfkgaaPlain
set_option linter.unusedVariables false
set_option linter.unusedSimpArgs false
namespace Go.Proofs.Ytkbcmmkhphfkgaa.Pure
open Go.RowKit Go.Proofs.Ytkbcmmkhphfkgaa.PClockReads Go.Proofs.YtkbcmmkhphfkgaaW.PrintWords Go.Proofs.YtkbcmmkhphfkgaaW.PrintLast Go.Proofs.YtkbcmmkhphfkgaaW.PrintMore Go.Proofs.Ytkbcmmkhphfkgaa.Plain

theorem alive_true : drumlinelaw8_alive.f = some true := by decide +kernel

theorem floor_eq {a b : Int} (h1 : -9223372036854775808 ≤ a) (h2 : a ≤ 9223372036854775807) : ticks_Floor.f a b = some (if b < 1 then (0, false) else (flo a b, true)) := by
  unfold ticks_Floor.f
  by_cases hb : b < 1
  · rw [if_pos hb, if_pos hb]
  · have ht := tdiv_le (a := a) (b := b) (by omega) h1 h2
    have hf := flo_bd (a := a) (b := b) (by omega) h1 h2
    have he := flo_trunc (a := a) (b := b) (by omega)
    rw [if_neg hb, if_neg (by omega), if_neg hb, w64 ht.1 ht.2]
    by_cases hm : Int.tmod a b < 0
    · rw [if_pos hm] at he ⊢
      rw [w64 (by omega) (by omega), he]
    · rw [if_neg hm] at he ⊢
      rw [he]

theorem scale_some (x p : Int) : ∃ r, ticks_Scale.f x p = some r := by
  unfold ticks_Scale.f ticks_Time.f
  have hf : ∃ r, ticks_Floor.f (wrap64 (x * p)) 1000000 = some r := by
    have := wf64 (wrap64_wf (x * p))
    rw [floor_eq this.1 this.2]; exact ⟨_, rfl⟩
  obtain ⟨r, hr⟩ := hf
  rw [hr]
  by_cases h : x ≥ -1099511627776
  · rw [if_pos h]
    simp only [Option.bind_some]
    split
    · split
      · exact ⟨_, rfl⟩
      · split <;> exact ⟨_, rfl⟩
    · exact ⟨_, rfl⟩
  · rw [if_neg h]
    exact ⟨_, rfl⟩
theorem real_some (x p : Int) : ∃ r, clock_Real.f x p = some r := by
  obtain ⟨r, hr⟩ := scale_some x p
  unfold clock_Real.f
  rw [hr]; exact ⟨_, rfl⟩
theorem local_some (x p : Int) : ∃ r, clock_Local.f x p = some r := by
  obtain ⟨r, hr⟩ := scale_some x p
  unfold clock_Local.f
  rw [hr]; exact ⟨_, rfl⟩

theorem time_eq (x : Int) : ticks_Time.f x = some (decide (-1099511627776 ≤ x ∧ x ≤ 1099511627776)) := by
  unfold ticks_Time.f
  by_cases h : x ≥ -1099511627776
  · rw [if_pos h]; congr 1; rw [Bool.eq_iff_iff]; simp; omega
  · rw [if_neg h]; congr 1; symm; rw [decide_eq_false_iff_not]; omega
theorem ClockReads : drumlinelaw8_ClockReads.Pure := by
  intro s c l p t hs hc hl hp ht
  refine ⟨1, ?_⟩
  obtain ⟨u, hu⟩ := local_some (wrap64 (t - s)) p
  have e1 : drumlineref5_Local.f (wrap64 (t - s)) p = clock_Local.f (wrap64 (t - s)) p := rfl
  have e2 : ∀ x, drumlineref1_Time.f x = ticks_Time.f x := fun _ => rfl
  have hout : ∀ a b c d e, drumlineref5_Reading.j0 1 a b c d e true = some (0, false) := fun _ _ _ _ _ => rfl
  have hin : drumlineref5_Reading.j0 1 s c l p t false = (if l < 1 then (some (0, false)) else (if l > 1000000 then (some (0, false)) else (if p < (-1000000) then (some (0, false)) else (if p > 1000000 then (some (0, false)) else some (wrap64 ((wrap64 (c * l)) + u), true))))) := by
    simp only [drumlineref5_Reading.j0, Bool.false_eq_true, if_false, e1, hu, Option.bind_some]
  have key : ∃ r, clock_Reading.f s c l p t = some r ∧ drumlineref5_Reading.f 1 s c l p t = some r := by
    unfold clock_Reading.f drumlineref5_Reading.f
    simp only [e2, time_eq, hu, Option.bind_some, hout]
    by_cases h1 : -1099511627776 ≤ s ∧ s ≤ 1099511627776
    · rw [decide_eq_true h1, if_pos rfl, if_pos rfl]
      by_cases h2 : -1099511627776 ≤ t ∧ t ≤ 1099511627776
      · rw [decide_eq_true h2, if_pos rfl, if_pos rfl]
        by_cases h3 : -1099511627776 ≤ wrap64 (t - s) ∧ wrap64 (t - s) ≤ 1099511627776
        · rw [decide_eq_true h3, if_pos rfl, if_pos rfl]
          by_cases h4 : c < 0
          · rw [if_pos h4, if_pos h4]; exact ⟨_, rfl, rfl⟩
          · rw [if_neg h4, if_neg h4]
            by_cases h5 : c > 1099511627776
            · rw [if_pos h5, decide_eq_true h5, hout]; exact ⟨_, rfl, rfl⟩
            · rw [if_neg h5, decide_eq_false h5, hin]
              split
              · exact ⟨_, rfl, rfl⟩
              · split
                · exact ⟨_, rfl, rfl⟩
                · split
                  · exact ⟨_, rfl, rfl⟩
                  · split
                    · exact ⟨_, rfl, rfl⟩
                    · exact ⟨_, rfl, rfl⟩
        · rw [decide_eq_false h3, if_neg (by simp), if_neg (by simp)]; exact ⟨_, rfl, rfl⟩
      · rw [decide_eq_false h2, if_neg (by simp), if_neg (by simp)]; exact ⟨_, rfl, rfl⟩
    · rw [decide_eq_false h1, if_neg (by simp), if_neg (by simp)]; exact ⟨_, rfl, rfl⟩
  obtain ⟨r, h1, h2⟩ := key
  unfold drumlinelaw8_ClockReads.f
  rw [alive_true, h1, h2]
  simp

end Go.Proofs.Ytkbcmmkhphfkgaa.Pure
