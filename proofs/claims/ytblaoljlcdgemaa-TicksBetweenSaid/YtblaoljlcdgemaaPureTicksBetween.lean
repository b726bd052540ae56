/- a quotient lies between Floor and Ceil, which are at most 1 apart and alike just where nothing is left. No conditions. -/
import Derived.Test.YtblaoljlcdgemaaPTicksBetweenx1
import Derived.Test.YtblaoljlcdgemaaPlain
set_option linter.unusedVariables false
set_option linter.unusedSimpArgs false
namespace Go.Proofs.Ytblaoljlcdgemaa.Pure
open Go.RowKit Go.Proofs.Ytblaoljlcdgemaa.PTicksBetween Go.Proofs.YtblaoljlcdgemaaW.PrintWords Go.Proofs.YtblaoljlcdgemaaW.PrintLast Go.Proofs.YtblaoljlcdgemaaW.PrintMore Go.Proofs.Ytblaoljlcdgemaa.Plain

theorem alive_true : drumlinelaw1_alive.f 1 = some true := by decide +kernel
theorem alive_two : drumlinelaw1_alive.f 2 = some true := by decide +kernel

theorem floor_eq {a b : Int} (h1 : -9223372036854775808 ≤ a) (h2 : a ≤ 9223372036854775807) : ticks_Floor.f a b = some (if b < 1 then (0, false) else (flo a b, true)) := by
  unfold ticks_Floor.f
  by_cases hb : b < 1
  · rw [if_pos hb, if_pos hb]
  · have ht := tdiv_le (a := a) (b := b) (by omega) h1 h2
    have hf := flo_bd (a := a) (b := b) (by omega) h1 h2
    have he := flo_trunc (a := a) (b := b) (by omega)
    rw [if_neg hb, if_neg (by omega), if_neg hb, w64 ht.1 ht.2]
    by_cases hm : Int.tmod a b < 0
    · rw [if_pos hm] at he ⊢
      rw [w64 (by omega) (by omega), he]
    · rw [if_neg hm] at he ⊢
      rw [he]
theorem ceil_eq {a b : Int} (h1 : -9223372036854775808 ≤ a) (h2 : a < 9223372036854775807) : ticks_Ceil.f a b = some (if b < 1 then (0, false) else (cei a b, true)) := by
  unfold ticks_Ceil.f
  by_cases hb : b < 1
  · rw [if_pos hb, if_pos hb]
  · have ht := tdiv_le (a := a) (b := b) (by omega) h1 (by omega)
    have he := cei_trunc (a := a) (b := b) (by omega)
    rw [if_neg hb, if_neg (by omega), if_neg hb, w64 ht.1 ht.2]
    by_cases hm : Int.tmod a b > 0
    · rw [if_pos hm] at he ⊢
      have h3 : Int.tdiv a b ≤ a := by
        rcases Int.lt_or_le a 0 with h | h
        · obtain ⟨e1, e2⟩ := rem_neg (b := b) h
          have := Int.emod_nonneg (-a) (show b ≠ 0 by omega)
          omega
        · rw [(rem_pos (b := b) h).1]; exact Int.ediv_le_self _ h
      rw [w64 (by omega) (by omega), he]
    · rw [if_neg hm] at he ⊢
      rw [he]

theorem TicksBetween : drumlinelaw1_TicksBetween.Pure := by
  intro a b ha hb
  obtain ⟨a1, a2⟩ := wf64 ha
  obtain ⟨b1, b2⟩ := wfu16 hb
  refine ⟨2, ?_⟩
  unfold drumlinelaw1_TicksBetween.f
  rw [alive_two, w64 (x := b) (by omega) (by omega), w64 (x := b + 1) (by omega) (by omega)]
  simp only [Option.bind_some, if_true]
  have out : drumlinelaw1_TicksBetween.j0 2 a (b + 1) true = some true := by
    simp only [drumlinelaw1_TicksBetween.j0, if_true, alive_true, Option.bind_some]
  by_cases h1 : a < -1152921504606846976
  · rw [if_pos h1]; exact out
  rw [if_neg h1]
  by_cases h2 : a > 1152921504606846976
  · rw [decide_eq_true h2]; exact out
  rw [decide_eq_false h2]
  have hn : 1 ≤ b + 1 := by omega
  obtain ⟨l1, l2⟩ := flo_le (a := a) hn
  obtain ⟨c1, c2⟩ := cei_le (a := a) hn
  obtain ⟨d1, d2⟩ := flo_cei (a := a) hn
  have bd := flo_bd (a := a) hn a1 a2
  have cb : -9223372036854775808 ≤ cei a (b + 1) - flo a (b + 1) := by
    have : flo a (b + 1) ≤ cei a (b + 1) := by
      rw [flo_trunc hn, cei_trunc hn]; split <;> split <;> omega
    omega
  simp only [drumlinelaw1_TicksBetween.j0]
  rw [floor_eq a1 a2, ceil_eq a1 (by omega), if_neg (show ¬ b + 1 < 1 by omega), if_neg (show ¬ b + 1 < 1 by omega)]
  simp only [Option.bind_some, Bool.false_eq_true, if_false, if_true]
  rw [w64 (x := flo a (b + 1) * (b + 1)) (by omega) (by omega), w64 (x := cei a (b + 1) * (b + 1)) (by omega) (by omega)]
  rw [if_pos (by omega), w64 (x := a - flo a (b + 1) * (b + 1)) (by omega) (by omega), if_pos (by omega), if_pos (by omega), w64 (x := cei a (b + 1) * (b + 1) - a) (by omega) (by omega), if_pos (by omega), if_neg (by omega)]
  rw [w64 cb (by omega)]
  have eq : (flo a (b + 1) == cei a (b + 1)) = (Int.tmod a (b + 1) == 0) := by
    rw [Bool.eq_iff_iff]; simpa using d1
  rw [eq]
  simp [d2]

end Go.Proofs.Ytblaoljlcdgemaa.Pure
