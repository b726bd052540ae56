/- where the guard and what comes are shifted by the same ticks nothing is otherwise. No conditions. -/
import Derived.Test.YtkbcmmkhphfkgaaGuGuardShifts
import Derived.Test.YtkbcmmkhphfkgaaPlain
set_option linter.unusedVariables false
set_option linter.unusedSimpArgs false
namespace Go.Proofs.Ytkbcmmkhphfkgaa.Pure
open Go.RowKit Go.Proofs.Ytkbcmmkhphfkgaa.GGuardShifts Go.Proofs.YtkbcmmkhphfkgaaW.PrintWords Go.Proofs.YtkbcmmkhphfkgaaW.PrintLast Go.Proofs.YtkbcmmkhphfkgaaW.PrintMore Go.Proofs.Ytkbcmmkhphfkgaa.Plain

theorem alive_true : drumlinelaw10_alive.f = some true := by decide +kernel

theorem floor_eq {a b : Int} (h1 : -9223372036854775808 ≤ a) (h2 : a ≤ 9223372036854775807) : ticks_Floor.f a b = some (if b < 1 then (0, false) else (flo a b, true)) := by
  unfold ticks_Floor.f
  by_cases hb : b < 1
  · rw [if_pos hb, if_pos hb]
  · have ht := tdiv_le (a := a) (b := b) (by omega) h1 h2
    have hf := flo_bd (a := a) (b := b) (by omega) h1 h2
    have he := flo_trunc (a := a) (b := b) (by omega)
    rw [if_neg hb, if_neg (by omega), if_neg hb, w64 ht.1 ht.2]
    by_cases hm : Int.tmod a b < 0
    · rw [if_pos hm] at he ⊢
      rw [w64 (by omega) (by omega), he]
    · rw [if_neg hm] at he ⊢
      rw [he]

theorem mul_bd {x p X P : Int} (h1 : -X ≤ x) (h2 : x ≤ X) (h3 : -P ≤ p) (h4 : p ≤ P) : -(X * P) ≤ x * p ∧ x * p ≤ X * P := by
  rcases Int.lt_or_le x 0 with hx | hx
  · have a := Int.mul_le_mul_of_nonneg_left (c := -x) (a := -P) (b := p) h3 (by omega)
    have b := Int.mul_le_mul_of_nonneg_left (c := -x) (a := p) (b := P) h4 (by omega)
    have c := Int.mul_le_mul_of_nonneg_right (c := P) (a := -x) (b := X) (by omega) (by omega)
    simp only [Int.neg_mul, Int.mul_neg] at a b c
    omega
  · have a := Int.mul_le_mul_of_nonneg_left (c := x) (a := -P) (b := p) h3 (by omega)
    have b := Int.mul_le_mul_of_nonneg_left (c := x) (a := p) (b := P) h4 (by omega)
    have c := Int.mul_le_mul_of_nonneg_right (c := P) (a := x) (b := X) (by omega) (by omega)
    simp only [Int.mul_neg] at a
    omega
theorem scale_eq {x p : Int} (h1 : -1099511627776 ≤ x) (h2 : x ≤ 1099511627776) (h3 : -1000000 ≤ p) (h4 : p ≤ 1000000) : ticks_Scale.f x p = some (flo (x * p) 1000000, true) := by
  obtain ⟨b1, b2⟩ := mul_bd h1 h2 h3 h4
  unfold ticks_Scale.f ticks_Time.f
  rw [if_pos (by omega)]
  simp only [Option.bind_some, decide_eq_true_eq]
  rw [if_pos (by omega), if_neg (by omega), if_neg (by omega), w64 (by omega) (by omega), floor_eq (by omega) (by omega)]
  rfl
theorem real_eq {x p : Int} (h1 : -1099511627776 ≤ x) (h2 : x ≤ 1099511627776) (h3 : -1000000 ≤ p) (h4 : p ≤ 1000000) : clock_Real.f x p = some (x - flo (x * p) 1000000) := by
  obtain ⟨b1, b2⟩ := mul_bd h1 h2 h3 h4
  have f := flo_le (a := x * p) (b := 1000000) (by omega)
  unfold clock_Real.f
  rw [scale_eq h1 h2 h3 h4]
  simp only [Option.bind_some]
  rw [w64 (by omega) (by omega)]
theorem mod_bd {n m : Int} (hm : 0 < m) : -m < Int.tmod n m ∧ Int.tmod n m < m := by
  have h1 := Int.emod_nonneg (-n) (show m ≠ 0 by omega)
  have h2 := Int.emod_lt_of_pos (-n) hm
  have h3 := Int.emod_nonneg n (show m ≠ 0 by omega)
  have h4 := Int.emod_lt_of_pos n hm
  rcases Int.lt_or_le n 0 with h | h
  · rw [(rem_neg (b := m) h).2]; omega
  · rw [(rem_pos (b := m) h).2]; omega

theorem time_yes {x : Int} (h1 : -1099511627776 ≤ x) (h2 : x ≤ 1099511627776) : ticks_Time.f x = some true := by
  unfold ticks_Time.f
  rw [if_pos (by omega), decide_eq_true (by omega)]
/-- How late something is, of a guard that is on. -/
theorem late_eq {s at_ p t : Int} {l : List Int} (s1 : -1099511627776 ≤ s) (s2 : s ≤ 1099511627776) (a1 : -1099511627776 ≤ at_) (a2 : at_ ≤ 1099511627776) (t1 : -1099511627776 ≤ t) (t2 : t ≤ 1099511627776) (h3 : -1000000 ≤ p) (h4 : p ≤ 1000000) :
    guard_Late.f true s l at_ p t = some (t - s - (at_ - flo (at_ * p) 1000000), true) := by
  obtain ⟨b1, b2⟩ := mul_bd a1 a2 h3 h4
  have f := flo_le (a := at_ * p) (b := 1000000) (by omega)
  unfold guard_Late.f
  rw [time_yes s1 s2, time_yes a1 a2, time_yes t1 t2, real_eq a1 a2 h3 h4]
  simp only [if_true, Option.bind_some]
  rw [w64 (x := t - s) (by omega) (by omega), w64 (by omega) (by omega)]
/-- Whether it is let pass, of a guard that is on. -/
theorem pass_eq {s at_ p t w : Int} {l : List Int} (s1 : -1099511627776 ≤ s) (s2 : s ≤ 1099511627776) (a1 : -1099511627776 ≤ at_) (a2 : at_ ≤ 1099511627776) (t1 : -1099511627776 ≤ t) (t2 : t ≤ 1099511627776) (h3 : -1000000 ≤ p) (h4 : p ≤ 1000000) (w1 : 0 ≤ w) (w2 : w ≤ 65535) :
    guard_Pass.f true s l at_ p w t = some (decide (-w ≤ t - s - (at_ - flo (at_ * p) 1000000) ∧ t - s - (at_ - flo (at_ * p) 1000000) ≤ w)) := by
  unfold guard_Pass.f
  rw [late_eq s1 s2 a1 a2 t1 t2 h3 h4]
  simp only [if_true, Option.bind_some]
  rw [if_pos (by omega), w64 (x := -w) (by omega) (by omega)]
  generalize t - s - (at_ - flo (at_ * p) 1000000) = d
  by_cases h : d ≥ -w
  · rw [if_pos h]; congr 1; rw [Bool.eq_iff_iff]; simp; omega
  · rw [if_neg h]; congr 1; symm; rw [decide_eq_false_iff_not]; omega

theorem GuardShifts : drumlinelaw10_GuardShifts.Pure := by
  intro s t d x w hs ht hd hx hw
  obtain ⟨x1, x2⟩ := wfu16 hx
  obtain ⟨w1, w2⟩ := wfu16 hw
  refine ⟨1, ?_⟩
  unfold drumlinelaw10_GuardShifts.f
  rw [alive_true]
  simp only [Option.bind_some, if_true]
  have out : drumlinelaw10_GuardShifts.j0 1 s t d x w true = some true := by
    simp only [drumlinelaw10_GuardShifts.j0, alive_true, if_true, Option.bind_some]
  by_cases h1 : s < -274877906944
  · rw [if_pos h1]; exact out
  rw [if_neg h1]
  by_cases h2 : s > 274877906944
  · rw [if_pos h2]; exact out
  rw [if_neg h2]
  by_cases h3 : t < -274877906944
  · rw [if_pos h3]; exact out
  rw [if_neg h3]
  by_cases h4 : t > 274877906944
  · rw [if_pos h4]; exact out
  rw [if_neg h4]
  by_cases h5 : d < -274877906944
  · rw [if_pos h5]; exact out
  rw [if_neg h5]
  by_cases h6 : d > 274877906944
  · rw [decide_eq_true h6]; exact out
  rw [decide_eq_false h6]
  simp only [drumlinelaw10_GuardShifts.j0, Bool.false_eq_true, if_false]
  rw [w64 (x := x) (by omega) (by omega), w64 (x := w) (by omega) (by omega), w64 (x := s + d) (by omega) (by omega), w64 (x := t + d) (by omega) (by omega)]
  rw [late_eq (s := s) (t := t) (by omega) (by omega) (by omega) (by omega) (by omega) (by omega) (by omega) (by omega), late_eq (s := s + d) (t := t + d) (by omega) (by omega) (by omega) (by omega) (by omega) (by omega) (by omega) (by omega),
    pass_eq (s := s) (t := t) (by omega) (by omega) (by omega) (by omega) (by omega) (by omega) (by omega) (by omega) w1 w2, pass_eq (s := s + d) (t := t + d) (by omega) (by omega) (by omega) (by omega) (by omega) (by omega) (by omega) (by omega) w1 w2,
    show t + d - (s + d) = t - s by omega]
  simp

end Go.Proofs.Ytkbcmmkhphfkgaa.Pure
