/- a clock that is faster takes no more real time for the same ticks, and more ticks never less. No conditions. -/
import Derived.Test.YtkbcmmkhphfkgaaPClockOrderx1
import Derived.Test.YtkbcmmkhphfkgaaPlain
set_option linter.unusedVariables false
set_option linter.unusedSimpArgs false
namespace Go.Proofs.Ytkbcmmkhphfkgaa.Pure
open Go.RowKit Go.Proofs.Ytkbcmmkhphfkgaa.PClockOrder Go.Proofs.YtkbcmmkhphfkgaaW.PrintWords Go.Proofs.YtkbcmmkhphfkgaaW.PrintLast Go.Proofs.YtkbcmmkhphfkgaaW.PrintMore Go.Proofs.Ytkbcmmkhphfkgaa.Plain

theorem alive_true : drumlinelaw8_alive.f = some true := by decide +kernel

theorem floor_eq {a b : Int} (h1 : -9223372036854775808 ≤ a) (h2 : a ≤ 9223372036854775807) : ticks_Floor.f a b = some (if b < 1 then (0, false) else (flo a b, true)) := by
  unfold ticks_Floor.f
  by_cases hb : b < 1
  · rw [if_pos hb, if_pos hb]
  · have ht := tdiv_le (a := a) (b := b) (by omega) h1 h2
    have hf := flo_bd (a := a) (b := b) (by omega) h1 h2
    have he := flo_trunc (a := a) (b := b) (by omega)
    rw [if_neg hb, if_neg (by omega), if_neg hb, w64 ht.1 ht.2]
    by_cases hm : Int.tmod a b < 0
    · rw [if_pos hm] at he ⊢
      rw [w64 (by omega) (by omega), he]
    · rw [if_neg hm] at he ⊢
      rw [he]

theorem mul_bd {x p X P : Int} (h1 : -X ≤ x) (h2 : x ≤ X) (h3 : -P ≤ p) (h4 : p ≤ P) : -(X * P) ≤ x * p ∧ x * p ≤ X * P := by
  rcases Int.lt_or_le x 0 with hx | hx
  · have a := Int.mul_le_mul_of_nonneg_left (c := -x) (a := -P) (b := p) h3 (by omega)
    have b := Int.mul_le_mul_of_nonneg_left (c := -x) (a := p) (b := P) h4 (by omega)
    have c := Int.mul_le_mul_of_nonneg_right (c := P) (a := -x) (b := X) (by omega) (by omega)
    simp only [Int.neg_mul, Int.mul_neg] at a b c
    omega
  · have a := Int.mul_le_mul_of_nonneg_left (c := x) (a := -P) (b := p) h3 (by omega)
    have b := Int.mul_le_mul_of_nonneg_left (c := x) (a := p) (b := P) h4 (by omega)
    have c := Int.mul_le_mul_of_nonneg_right (c := P) (a := x) (b := X) (by omega) (by omega)
    simp only [Int.mul_neg] at a
    omega
theorem scale_eq {x p : Int} (h1 : -1099511627776 ≤ x) (h2 : x ≤ 1099511627776) (h3 : -1000000 ≤ p) (h4 : p ≤ 1000000) : ticks_Scale.f x p = some (flo (x * p) 1000000, true) := by
  obtain ⟨b1, b2⟩ := mul_bd h1 h2 h3 h4
  unfold ticks_Scale.f ticks_Time.f
  rw [if_pos (by omega)]
  simp only [Option.bind_some, decide_eq_true_eq]
  rw [if_pos (by omega), if_neg (by omega), if_neg (by omega), w64 (by omega) (by omega), floor_eq (by omega) (by omega)]
  rfl
theorem real_eq {x p : Int} (h1 : -1099511627776 ≤ x) (h2 : x ≤ 1099511627776) (h3 : -1000000 ≤ p) (h4 : p ≤ 1000000) : clock_Real.f x p = some (x - flo (x * p) 1000000) := by
  obtain ⟨b1, b2⟩ := mul_bd h1 h2 h3 h4
  have f := flo_le (a := x * p) (b := 1000000) (by omega)
  unfold clock_Real.f
  rw [scale_eq h1 h2 h3 h4]
  simp only [Option.bind_some]
  rw [w64 (by omega) (by omega)]
theorem local_eq {x p : Int} (h1 : -1099511627776 ≤ x) (h2 : x ≤ 1099511627776) (h3 : -1000000 ≤ p) (h4 : p ≤ 1000000) : clock_Local.f x p = some (x + flo (x * p) 1000000) := by
  obtain ⟨b1, b2⟩ := mul_bd h1 h2 h3 h4
  have f := flo_le (a := x * p) (b := 1000000) (by omega)
  unfold clock_Local.f
  rw [scale_eq h1 h2 h3 h4]
  simp only [Option.bind_some]
  rw [w64 (by omega) (by omega)]
theorem mod_bd {n m : Int} (hm : 0 < m) : -m < Int.tmod n m ∧ Int.tmod n m < m := by
  have h1 := Int.emod_nonneg (-n) (show m ≠ 0 by omega)
  have h2 := Int.emod_lt_of_pos (-n) hm
  have h3 := Int.emod_nonneg n (show m ≠ 0 by omega)
  have h4 := Int.emod_lt_of_pos n hm
  rcases Int.lt_or_le n 0 with h | h
  · rw [(rem_neg (b := m) h).2]; omega
  · rw [(rem_pos (b := m) h).2]; omega

theorem ClockOrder : drumlinelaw8_ClockOrder.Pure := by
  intro x y p q hx hy hp hq
  obtain ⟨x1, x2⟩ := wfu32 hx
  obtain ⟨y1, y2⟩ := wfu32 hy
  obtain ⟨a1, a2⟩ := mod_bd (n := p) (m := 1000000) (by omega)
  obtain ⟨b1, b2⟩ := mod_bd (n := q) (m := 1000000) (by omega)
  refine ⟨1, ?_⟩
  unfold drumlinelaw8_ClockOrder.f
  rw [alive_true, w64 (x := Int.tmod p 1000000) (by omega) (by omega), w64 (x := Int.tmod q 1000000) (by omega) (by omega)]
  generalize Int.tmod p 1000000 = a at *
  generalize Int.tmod q 1000000 = b at *
  simp only [Option.bind_some, if_true]
  have out : drumlinelaw8_ClockOrder.j0 1 x y a b true = some true := by
    simp only [drumlinelaw8_ClockOrder.j0, alive_true, if_true, Option.bind_some]
  by_cases h1 : x > y
  · rw [if_pos h1]; exact out
  rw [if_neg h1]
  by_cases h2 : a > b
  · rw [decide_eq_true h2]; exact out
  rw [decide_eq_false h2]
  simp only [drumlinelaw8_ClockOrder.j0]
  rw [w64 (x := x) (by omega) (by omega), w64 (x := y) (by omega) (by omega)]
  rw [real_eq (x := x) (p := a) (by omega) (by omega) (by omega) (by omega), real_eq (x := x) (p := b) (by omega) (by omega) (by omega) (by omega), real_eq (x := y) (p := a) (by omega) (by omega) (by omega) (by omega), local_eq (x := x) (p := a) (by omega) (by omega) (by omega) (by omega), local_eq (x := y) (p := b) (by omega) (by omega) (by omega) (by omega)]
  simp only [Option.bind_some, Bool.false_eq_true, if_false]
  have m1 : flo (x * a) 1000000 ≤ flo (x * b) 1000000 := flo_mono (by omega) (Int.mul_le_mul_of_nonneg_left (by omega) (by omega))
  have m2 : flo (y * a) 1000000 ≤ flo (y * b) 1000000 := flo_mono (by omega) (Int.mul_le_mul_of_nonneg_left (by omega) (by omega))
  have d1 : (y - x) * a ≤ (y - x) * 1000000 := Int.mul_le_mul_of_nonneg_left (by omega) (by omega)
  have d2 : (y - x) * (-1000000) ≤ (y - x) * a := Int.mul_le_mul_of_nonneg_left (by omega) (by omega)
  rw [Int.sub_mul y x a] at d1 d2
  have fx := flo_le (a := x * a) (b := 1000000) (by omega)
  have fy := flo_le (a := y * a) (b := 1000000) (by omega)
  rw [if_pos (by omega), if_pos (by omega), decide_eq_true (by omega)]

end Go.Proofs.Ytkbcmmkhphfkgaa.Pure
