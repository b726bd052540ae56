/- what two clocks are off by is at most what their parts of a million are apart, rounded up. No conditions. -/
import Derived.Test.YtblaoljlcdgemaaPTicksApartx1
import Derived.Test.YtblaoljlcdgemaaPlain
set_option linter.unusedVariables false
set_option linter.unusedSimpArgs false
namespace Go.Proofs.Ytblaoljlcdgemaa.Pure
open Go.RowKit Go.Proofs.Ytblaoljlcdgemaa.PTicksApart Go.Proofs.YtblaoljlcdgemaaW.PrintWords Go.Proofs.YtblaoljlcdgemaaW.PrintLast Go.Proofs.YtblaoljlcdgemaaW.PrintMore Go.Proofs.Ytblaoljlcdgemaa.Plain

theorem alive_true : drumlinelaw1_alive.f 1 = some true := by decide +kernel
theorem alive_two : drumlinelaw1_alive.f 2 = some true := by decide +kernel

theorem floor_eq {a b : Int} (h1 : -9223372036854775808 ≤ a) (h2 : a ≤ 9223372036854775807) : ticks_Floor.f a b = some (if b < 1 then (0, false) else (flo a b, true)) := by
  unfold ticks_Floor.f
  by_cases hb : b < 1
  · rw [if_pos hb, if_pos hb]
  · have ht := tdiv_le (a := a) (b := b) (by omega) h1 h2
    have hf := flo_bd (a := a) (b := b) (by omega) h1 h2
    have he := flo_trunc (a := a) (b := b) (by omega)
    rw [if_neg hb, if_neg (by omega), if_neg hb, w64 ht.1 ht.2]
    by_cases hm : Int.tmod a b < 0
    · rw [if_pos hm] at he ⊢
      rw [w64 (by omega) (by omega), he]
    · rw [if_neg hm] at he ⊢
      rw [he]
theorem ceil_eq {a b : Int} (h1 : -9223372036854775808 ≤ a) (h2 : a < 9223372036854775807) : ticks_Ceil.f a b = some (if b < 1 then (0, false) else (cei a b, true)) := by
  unfold ticks_Ceil.f
  by_cases hb : b < 1
  · rw [if_pos hb, if_pos hb]
  · have ht := tdiv_le (a := a) (b := b) (by omega) h1 (by omega)
    have he := cei_trunc (a := a) (b := b) (by omega)
    rw [if_neg hb, if_neg (by omega), if_neg hb, w64 ht.1 ht.2]
    by_cases hm : Int.tmod a b > 0
    · rw [if_pos hm] at he ⊢
      have h3 : Int.tdiv a b ≤ a := by
        rcases Int.lt_or_le a 0 with h | h
        · obtain ⟨e1, e2⟩ := rem_neg (b := b) h
          have := Int.emod_nonneg (-a) (show b ≠ 0 by omega)
          omega
        · rw [(rem_pos (b := b) h).1]; exact Int.ediv_le_self _ h
      rw [w64 (by omega) (by omega), he]
    · rw [if_neg hm] at he ⊢
      rw [he]

theorem scale_bd {x p : Int} (h1 : -1099511627776 ≤ x) (h2 : x ≤ 1099511627776) (h3 : -1000000 ≤ p) (h4 : p ≤ 1000000) : -1099511627776000000 ≤ x * p ∧ x * p ≤ 1099511627776000000 := by
  rcases Int.lt_or_le x 0 with hx | hx
  · have a := Int.mul_le_mul_of_nonneg_left (c := -x) (a := -1000000) (b := p) h3 (by omega)
    have b := Int.mul_le_mul_of_nonneg_left (c := -x) (a := p) (b := 1000000) h4 (by omega)
    simp only [Int.neg_mul] at a b
    omega
  · have a := Int.mul_le_mul_of_nonneg_left (c := x) (a := -1000000) (b := p) h3 (by omega)
    have b := Int.mul_le_mul_of_nonneg_left (c := x) (a := p) (b := 1000000) h4 (by omega)
    omega
theorem scale_eq {x p : Int} (h1 : -1099511627776 ≤ x) (h2 : x ≤ 1099511627776) (h3 : -1000000 ≤ p) (h4 : p ≤ 1000000) : ticks_Scale.f x p = some (flo (x * p) 1000000, true) := by
  obtain ⟨b1, b2⟩ := scale_bd h1 h2 h3 h4
  unfold ticks_Scale.f ticks_Time.f
  rw [if_pos (by omega)]
  simp only [Option.bind_some, decide_eq_true_eq]
  rw [if_pos (by omega), if_neg (by omega), if_neg (by omega), w64 (by omega) (by omega), floor_eq (by omega) (by omega)]
  rfl

theorem TicksApart : drumlinelaw1_TicksApart.Pure := by
  intro x p q hx hp hq
  obtain ⟨x1, x2⟩ := wf64 hx
  obtain ⟨p1, p2⟩ := wf32 hp
  obtain ⟨q1, q2⟩ := wf32 hq
  have mod_bd : ∀ n : Int, -1000000 < Int.tmod n 1000000 ∧ Int.tmod n 1000000 < 1000000 := by
    intro n
    rcases Int.lt_or_le n 0 with h | h
    · rw [(rem_neg (b := 1000000) h).2]; omega
    · rw [(rem_pos (b := 1000000) h).2]; omega
  refine ⟨2, ?_⟩
  obtain ⟨a1, a2⟩ := mod_bd p
  obtain ⟨b1, b2⟩ := mod_bd q
  unfold drumlinelaw1_TicksApart.f
  rw [alive_two, w64 (x := Int.tmod p 1000000) (by omega) (by omega), w64 (x := Int.tmod q 1000000) (by omega) (by omega)]
  generalize Int.tmod p 1000000 = a at *
  generalize Int.tmod q 1000000 = b at *
  simp only [Option.bind_some, if_true]
  have out : drumlinelaw1_TicksApart.j0 2 x a b true = some true := by
    simp only [drumlinelaw1_TicksApart.j0, if_true, alive_true, Option.bind_some]
  by_cases h1 : x < 0
  · rw [if_pos h1]; exact out
  rw [if_neg h1]
  by_cases h2 : x > 1099511627776
  · rw [if_pos h2]; exact out
  rw [if_neg h2]
  by_cases h3 : a < b
  · rw [decide_eq_true h3]; exact out
  rw [decide_eq_false h3]
  simp only [drumlinelaw1_TicksApart.j0]
  have s1 := scale_bd (x := x) (p := a) (by omega) (by omega) (by omega) (by omega)
  have s2 := scale_bd (x := x) (p := b) (by omega) (by omega) (by omega) (by omega)
  have f1 := flo_le (a := x * a) (b := 1000000) (by omega)
  have f2 := flo_le (a := x * b) (b := 1000000) (by omega)
  have hmono : flo (x * b) 1000000 ≤ flo (x * a) 1000000 := flo_mono (by omega) (Int.mul_le_mul_of_nonneg_left (by omega) (by omega))
  have hsub := flo_sub (u := x * a) (v := x * b) (b := 1000000) (by omega)
  have hmul : x * a - x * b = x * (a - b) := by rw [Int.mul_sub]
  rw [hmul] at hsub
  have f3 := flo_le (a := x * (a - b)) (b := 1000000) (by omega)
  have u1 : x * a ≤ x * 1000000 := Int.mul_le_mul_of_nonneg_left (by omega) (by omega)
  have u2 : x * (-1000000) ≤ x * b := Int.mul_le_mul_of_nonneg_left (by omega) (by omega)
  rw [scale_eq (x := x) (p := a) (by omega) (by omega) (by omega) (by omega), scale_eq (x := x) (p := b) (by omega) (by omega) (by omega) (by omega), ceil_eq (a := x) (by omega) (by omega), if_neg (show ¬ (1000000 : Int) < 1 by omega)]
  simp only [Option.bind_some, Bool.false_eq_true, if_false, if_true]
  rw [w64 (x := a - b) (by omega) (by omega), w64 (x := flo (x * a) 1000000 - flo (x * b) 1000000) (by omega) (by omega)]
  by_cases h4 : a - b ≤ 1000000
  · have s3 := scale_bd (x := x) (p := a - b) (by omega) (by omega) (by omega) (by omega)
    rw [if_pos h4, scale_eq (x := x) (p := a - b) (by omega) (by omega) (by omega) (by omega)]
    simp only [Option.bind_some, Bool.false_eq_true, if_false, if_true]
    rw [w64 (x := flo (x * (a - b)) 1000000 + 1) (by omega) (by omega)]
    rw [if_pos (by omega)]
    simp; omega
  · rw [if_neg h4]
    rw [w64 (x := 2 * x) (by omega) (by omega), if_pos (by omega)]
    simp; omega

end Go.Proofs.Ytblaoljlcdgemaa.Pure
