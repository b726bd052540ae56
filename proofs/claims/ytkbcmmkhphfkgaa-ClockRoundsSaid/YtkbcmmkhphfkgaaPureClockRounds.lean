/- Round of the program is that of the document, and the tick lies within the cycle. No conditions. -/
import Derived.Test.YtkbcmmkhphfkgaaPClockRoundsx1
import Derived.Test.YtkbcmmkhphfkgaaPlain
set_option linter.unusedVariables false
set_option linter.unusedSimpArgs false
namespace Go.Proofs.Ytkbcmmkhphfkgaa.Pure
open Go.RowKit Go.Proofs.Ytkbcmmkhphfkgaa.PClockRounds Go.Proofs.YtkbcmmkhphfkgaaW.PrintWords Go.Proofs.YtkbcmmkhphfkgaaW.PrintLast Go.Proofs.YtkbcmmkhphfkgaaW.PrintMore Go.Proofs.Ytkbcmmkhphfkgaa.Plain

theorem alive_true : drumlinelaw8_alive.f = some true := by decide +kernel

theorem floor_eq {a b : Int} (h1 : -9223372036854775808 ≤ a) (h2 : a ≤ 9223372036854775807) : ticks_Floor.f a b = some (if b < 1 then (0, false) else (flo a b, true)) := by
  unfold ticks_Floor.f
  by_cases hb : b < 1
  · rw [if_pos hb, if_pos hb]
  · have ht := tdiv_le (a := a) (b := b) (by omega) h1 h2
    have hf := flo_bd (a := a) (b := b) (by omega) h1 h2
    have he := flo_trunc (a := a) (b := b) (by omega)
    rw [if_neg hb, if_neg (by omega), if_neg hb, w64 ht.1 ht.2]
    by_cases hm : Int.tmod a b < 0
    · rw [if_pos hm] at he ⊢
      rw [w64 (by omega) (by omega), he]
    · rw [if_neg hm] at he ⊢
      rw [he]

theorem ClockRounds : drumlinelaw8_ClockRounds.Pure := by
  intro n l hn hl
  obtain ⟨n1, n2⟩ := wf64 hn
  obtain ⟨l1, l2⟩ := wf64 hl
  have e1 : drumlineref5_Round.f n l = clock_Round.f n l := rfl
  unfold drumlinelaw8_ClockRounds.f
  rw [alive_true, e1]
  unfold clock_Round.f
  rw [floor_eq n1 n2]
  simp only [Option.bind_some, if_true]
  by_cases h : l < 1
  · rw [if_pos h]; rfl
  · rw [if_neg h]
    have f := flo_le (a := n) (b := l) (by omega)
    have e : wrap64 (n - wrap64 (flo n l * l)) = n - flo n l * l := by
      generalize flo n l * l = m at f ⊢
      unfold wrap64; omega
    simp only [if_true, e, Option.bind_some, bne_self_eq_false, Bool.false_eq_true, if_false]
    rw [if_pos (by omega), decide_eq_true (by omega)]

end Go.Proofs.Ytkbcmmkhphfkgaa.Pure
