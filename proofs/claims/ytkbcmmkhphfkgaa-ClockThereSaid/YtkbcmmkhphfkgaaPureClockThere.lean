/- what a clock goes in the real time that it takes for so many ticks is they, but for three ticks. No conditions. -/
import Derived.Test.YtkbcmmkhphfkgaaPClockTherex1
import Derived.Test.YtkbcmmkhphfkgaaPlain
set_option linter.unusedVariables false
set_option linter.unusedSimpArgs false
namespace Go.Proofs.Ytkbcmmkhphfkgaa.Pure
open Go.RowKit Go.Proofs.Ytkbcmmkhphfkgaa.PClockThere Go.Proofs.YtkbcmmkhphfkgaaW.PrintWords Go.Proofs.YtkbcmmkhphfkgaaW.PrintLast Go.Proofs.YtkbcmmkhphfkgaaW.PrintMore Go.Proofs.Ytkbcmmkhphfkgaa.Plain

theorem alive_true : drumlinelaw8_alive.f = some true := by decide +kernel

theorem floor_eq {a b : Int} (h1 : -9223372036854775808 ≤ a) (h2 : a ≤ 9223372036854775807) : ticks_Floor.f a b = some (if b < 1 then (0, false) else (flo a b, true)) := by
  unfold ticks_Floor.f
  by_cases hb : b < 1
  · rw [if_pos hb, if_pos hb]
  · have ht := tdiv_le (a := a) (b := b) (by omega) h1 h2
    have hf := flo_bd (a := a) (b := b) (by omega) h1 h2
    have he := flo_trunc (a := a) (b := b) (by omega)
    rw [if_neg hb, if_neg (by omega), if_neg hb, w64 ht.1 ht.2]
    by_cases hm : Int.tmod a b < 0
    · rw [if_pos hm] at he ⊢
      rw [w64 (by omega) (by omega), he]
    · rw [if_neg hm] at he ⊢
      rw [he]

theorem mul_bd {x p X P : Int} (h1 : -X ≤ x) (h2 : x ≤ X) (h3 : -P ≤ p) (h4 : p ≤ P) : -(X * P) ≤ x * p ∧ x * p ≤ X * P := by
  rcases Int.lt_or_le x 0 with hx | hx
  · have a := Int.mul_le_mul_of_nonneg_left (c := -x) (a := -P) (b := p) h3 (by omega)
    have b := Int.mul_le_mul_of_nonneg_left (c := -x) (a := p) (b := P) h4 (by omega)
    have c := Int.mul_le_mul_of_nonneg_right (c := P) (a := -x) (b := X) (by omega) (by omega)
    simp only [Int.neg_mul, Int.mul_neg] at a b c
    omega
  · have a := Int.mul_le_mul_of_nonneg_left (c := x) (a := -P) (b := p) h3 (by omega)
    have b := Int.mul_le_mul_of_nonneg_left (c := x) (a := p) (b := P) h4 (by omega)
    have c := Int.mul_le_mul_of_nonneg_right (c := P) (a := x) (b := X) (by omega) (by omega)
    simp only [Int.mul_neg] at a
    omega
theorem scale_eq {x p : Int} (h1 : -1099511627776 ≤ x) (h2 : x ≤ 1099511627776) (h3 : -1000000 ≤ p) (h4 : p ≤ 1000000) : ticks_Scale.f x p = some (flo (x * p) 1000000, true) := by
  obtain ⟨b1, b2⟩ := mul_bd h1 h2 h3 h4
  unfold ticks_Scale.f ticks_Time.f
  rw [if_pos (by omega)]
  simp only [Option.bind_some, decide_eq_true_eq]
  rw [if_pos (by omega), if_neg (by omega), if_neg (by omega), w64 (by omega) (by omega), floor_eq (by omega) (by omega)]
  rfl
theorem real_eq {x p : Int} (h1 : -1099511627776 ≤ x) (h2 : x ≤ 1099511627776) (h3 : -1000000 ≤ p) (h4 : p ≤ 1000000) : clock_Real.f x p = some (x - flo (x * p) 1000000) := by
  obtain ⟨b1, b2⟩ := mul_bd h1 h2 h3 h4
  have f := flo_le (a := x * p) (b := 1000000) (by omega)
  unfold clock_Real.f
  rw [scale_eq h1 h2 h3 h4]
  simp only [Option.bind_some]
  rw [w64 (by omega) (by omega)]
theorem local_eq {x p : Int} (h1 : -1099511627776 ≤ x) (h2 : x ≤ 1099511627776) (h3 : -1000000 ≤ p) (h4 : p ≤ 1000000) : clock_Local.f x p = some (x + flo (x * p) 1000000) := by
  obtain ⟨b1, b2⟩ := mul_bd h1 h2 h3 h4
  have f := flo_le (a := x * p) (b := 1000000) (by omega)
  unfold clock_Local.f
  rw [scale_eq h1 h2 h3 h4]
  simp only [Option.bind_some]
  rw [w64 (by omega) (by omega)]
theorem mod_bd {n m : Int} (hm : 0 < m) : -m < Int.tmod n m ∧ Int.tmod n m < m := by
  have h1 := Int.emod_nonneg (-n) (show m ≠ 0 by omega)
  have h2 := Int.emod_lt_of_pos (-n) hm
  have h3 := Int.emod_nonneg n (show m ≠ 0 by omega)
  have h4 := Int.emod_lt_of_pos n hm
  rcases Int.lt_or_le n 0 with h | h
  · rw [(rem_neg (b := m) h).2]; omega
  · rw [(rem_pos (b := m) h).2]; omega

theorem ClockThere : drumlinelaw8_ClockThere.Pure := by
  intro x p hx hp
  obtain ⟨n1, n2⟩ := mod_bd (n := x) (m := 1000001) (by omega)
  obtain ⟨p1, p2⟩ := mod_bd (n := p) (m := 1001) (by omega)
  unfold drumlinelaw8_ClockThere.f
  rw [alive_true, w64 (x := Int.tmod x 1000001) (by omega) (by omega), w64 (x := Int.tmod p 1001) (by omega) (by omega)]
  generalize Int.tmod x 1000001 = n at *
  generalize Int.tmod p 1001 = q at *
  have b := mul_bd (x := n) (p := q) (X := 1000000) (P := 1000) (by omega) (by omega) (by omega) (by omega)
  have f := flo_le (a := n * q) (b := 1000000) (by omega)
  have c := mul_bd (x := flo (n * q) 1000000) (p := q) (X := 1000) (P := 1000) (by omega) (by omega) (by omega) (by omega)
  have f2 := flo_le (a := (n - flo (n * q) 1000000) * q) (b := 1000000) (by omega)
  simp only [Option.bind_some, if_true]
  rw [real_eq (by omega) (by omega) (by omega) (by omega)]
  simp only [Option.bind_some, if_true]
  rw [local_eq (by omega) (by omega) (by omega) (by omega)]
  simp only [Option.bind_some, if_true]
  have m : (n - flo (n * q) 1000000) * q = n * q - flo (n * q) 1000000 * q := Int.sub_mul ..
  rw [m] at f2 ⊢
  rw [w64 (x := n - flo (n * q) 1000000 + flo (n * q - flo (n * q) 1000000 * q) 1000000 - n) (by omega) (by omega), if_pos (by omega), decide_eq_true (by omega)]

end Go.Proofs.Ytkbcmmkhphfkgaa.Pure
