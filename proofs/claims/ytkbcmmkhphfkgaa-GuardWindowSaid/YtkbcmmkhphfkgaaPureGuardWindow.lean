/- of what comes one tick apart just so many as the window has, either side, pass. No conditions. -/
import Derived.Test.YtkbcmmkhphfkgaaGuGuardWindow
import Derived.Test.YtkbcmmkhphfkgaaPlain
set_option linter.unusedVariables false
set_option linter.unusedSimpArgs false
namespace Go.Proofs.Ytkbcmmkhphfkgaa.Pure
open Go.RowKit Go.Proofs.Ytkbcmmkhphfkgaa.GGuardWindow Go.Proofs.YtkbcmmkhphfkgaaW.PrintWords Go.Proofs.YtkbcmmkhphfkgaaW.PrintLast Go.Proofs.YtkbcmmkhphfkgaaW.PrintMore Go.Proofs.Ytkbcmmkhphfkgaa.Plain

theorem alive_true : drumlinelaw10_alive.f = some true := by decide +kernel

theorem floor_eq {a b : Int} (h1 : -9223372036854775808 ≤ a) (h2 : a ≤ 9223372036854775807) : ticks_Floor.f a b = some (if b < 1 then (0, false) else (flo a b, true)) := by
  unfold ticks_Floor.f
  by_cases hb : b < 1
  · rw [if_pos hb, if_pos hb]
  · have ht := tdiv_le (a := a) (b := b) (by omega) h1 h2
    have hf := flo_bd (a := a) (b := b) (by omega) h1 h2
    have he := flo_trunc (a := a) (b := b) (by omega)
    rw [if_neg hb, if_neg (by omega), if_neg hb, w64 ht.1 ht.2]
    by_cases hm : Int.tmod a b < 0
    · rw [if_pos hm] at he ⊢
      rw [w64 (by omega) (by omega), he]
    · rw [if_neg hm] at he ⊢
      rw [he]

theorem mul_bd {x p X P : Int} (h1 : -X ≤ x) (h2 : x ≤ X) (h3 : -P ≤ p) (h4 : p ≤ P) : -(X * P) ≤ x * p ∧ x * p ≤ X * P := by
  rcases Int.lt_or_le x 0 with hx | hx
  · have a := Int.mul_le_mul_of_nonneg_left (c := -x) (a := -P) (b := p) h3 (by omega)
    have b := Int.mul_le_mul_of_nonneg_left (c := -x) (a := p) (b := P) h4 (by omega)
    have c := Int.mul_le_mul_of_nonneg_right (c := P) (a := -x) (b := X) (by omega) (by omega)
    simp only [Int.neg_mul, Int.mul_neg] at a b c
    omega
  · have a := Int.mul_le_mul_of_nonneg_left (c := x) (a := -P) (b := p) h3 (by omega)
    have b := Int.mul_le_mul_of_nonneg_left (c := x) (a := p) (b := P) h4 (by omega)
    have c := Int.mul_le_mul_of_nonneg_right (c := P) (a := x) (b := X) (by omega) (by omega)
    simp only [Int.mul_neg] at a
    omega
theorem scale_eq {x p : Int} (h1 : -1099511627776 ≤ x) (h2 : x ≤ 1099511627776) (h3 : -1000000 ≤ p) (h4 : p ≤ 1000000) : ticks_Scale.f x p = some (flo (x * p) 1000000, true) := by
  obtain ⟨b1, b2⟩ := mul_bd h1 h2 h3 h4
  unfold ticks_Scale.f ticks_Time.f
  rw [if_pos (by omega)]
  simp only [Option.bind_some, decide_eq_true_eq]
  rw [if_pos (by omega), if_neg (by omega), if_neg (by omega), w64 (by omega) (by omega), floor_eq (by omega) (by omega)]
  rfl
theorem real_eq {x p : Int} (h1 : -1099511627776 ≤ x) (h2 : x ≤ 1099511627776) (h3 : -1000000 ≤ p) (h4 : p ≤ 1000000) : clock_Real.f x p = some (x - flo (x * p) 1000000) := by
  obtain ⟨b1, b2⟩ := mul_bd h1 h2 h3 h4
  have f := flo_le (a := x * p) (b := 1000000) (by omega)
  unfold clock_Real.f
  rw [scale_eq h1 h2 h3 h4]
  simp only [Option.bind_some]
  rw [w64 (by omega) (by omega)]
theorem mod_bd {n m : Int} (hm : 0 < m) : -m < Int.tmod n m ∧ Int.tmod n m < m := by
  have h1 := Int.emod_nonneg (-n) (show m ≠ 0 by omega)
  have h2 := Int.emod_lt_of_pos (-n) hm
  have h3 := Int.emod_nonneg n (show m ≠ 0 by omega)
  have h4 := Int.emod_lt_of_pos n hm
  rcases Int.lt_or_le n 0 with h | h
  · rw [(rem_neg (b := m) h).2]; omega
  · rw [(rem_pos (b := m) h).2]; omega

theorem time_yes {x : Int} (h1 : -1099511627776 ≤ x) (h2 : x ≤ 1099511627776) : ticks_Time.f x = some true := by
  unfold ticks_Time.f
  rw [if_pos (by omega), decide_eq_true (by omega)]
/-- How late something is, of a guard that is on. -/
theorem late_eq {s at_ p t : Int} {l : List Int} (s1 : -1099511627776 ≤ s) (s2 : s ≤ 1099511627776) (a1 : -1099511627776 ≤ at_) (a2 : at_ ≤ 1099511627776) (t1 : -1099511627776 ≤ t) (t2 : t ≤ 1099511627776) (h3 : -1000000 ≤ p) (h4 : p ≤ 1000000) :
    guard_Late.f true s l at_ p t = some (t - s - (at_ - flo (at_ * p) 1000000), true) := by
  obtain ⟨b1, b2⟩ := mul_bd a1 a2 h3 h4
  have f := flo_le (a := at_ * p) (b := 1000000) (by omega)
  unfold guard_Late.f
  rw [time_yes s1 s2, time_yes a1 a2, time_yes t1 t2, real_eq a1 a2 h3 h4]
  simp only [if_true, Option.bind_some]
  rw [w64 (x := t - s) (by omega) (by omega), w64 (by omega) (by omega)]
/-- Whether it is let pass, of a guard that is on. -/
theorem pass_eq {s at_ p t w : Int} {l : List Int} (s1 : -1099511627776 ≤ s) (s2 : s ≤ 1099511627776) (a1 : -1099511627776 ≤ at_) (a2 : at_ ≤ 1099511627776) (t1 : -1099511627776 ≤ t) (t2 : t ≤ 1099511627776) (h3 : -1000000 ≤ p) (h4 : p ≤ 1000000) (w1 : 0 ≤ w) (w2 : w ≤ 65535) :
    guard_Pass.f true s l at_ p w t = some (decide (-w ≤ t - s - (at_ - flo (at_ * p) 1000000) ∧ t - s - (at_ - flo (at_ * p) 1000000) ≤ w)) := by
  unfold guard_Pass.f
  rw [late_eq s1 s2 a1 a2 t1 t2 h3 h4]
  simp only [if_true, Option.bind_some]
  rw [if_pos (by omega), w64 (x := -w) (by omega) (by omega)]
  generalize t - s - (at_ - flo (at_ * p) 1000000) = d
  by_cases h : d ≥ -w
  · rw [if_pos h]; congr 1; rw [Bool.eq_iff_iff]; simp; omega
  · rw [if_neg h]; congr 1; symm; rw [decide_eq_false_iff_not]; omega

/-- How many of -50, .., d - 1 lie within w. -/
def cnt (w d : Int) : Int := if d ≤ -w then 0 else if d ≤ w + 1 then d + w else 2 * w + 1
theorem loop {s x p w : Int} (s1 : -549755813888 ≤ s) (s2 : s ≤ 549755813888) (x1 : 0 ≤ x) (x2 : x ≤ 255) (p1 : -32768 ≤ p) (p2 : p ≤ 32767) (w1 : 0 ≤ w) (w2 : w < 40) (n : Nat) :
    ∀ (k : Nat) (d : Int), -50 ≤ d → d ≤ 51 → 51 - d = n → n < k → drumlinelaw10_GuardWindow.l0 k p x w (s + (x - flo (x * p) 1000000)) (cnt w d) d true s = some true := by
  obtain ⟨b1, b2⟩ := mul_bd (x := x) (p := p) (X := 255) (P := 32768) (by omega) (by omega) (by omega) (by omega)
  have f := flo_le (a := x * p) (b := 1000000) (by omega)
  induction n with
  | zero =>
    intro k d h1 h2 hn hk
    obtain ⟨k, rfl⟩ : ∃ m, k = m + 1 := ⟨k - 1, by omega⟩
    simp only [drumlinelaw10_GuardWindow.l0]
    rw [if_neg (by omega), w64 (x := 2 * w) (by omega) (by omega), w64 (x := 2 * w + 1) (by omega) (by omega)]
    have : cnt w d = 2 * w + 1 := by unfold cnt; rw [if_neg (by omega), if_neg (by omega)]
    rw [this]; simp
  | succ n ih =>
    intro k d h1 h2 hn hk
    obtain ⟨k, rfl⟩ : ∃ m, k = m + 1 := ⟨k - 1, by omega⟩
    simp only [drumlinelaw10_GuardWindow.l0]
    rw [if_pos (by omega), w64 (x := p) (by omega) (by omega), w64 (x := s + (x - flo (x * p) 1000000) + d) (by omega) (by omega),
      pass_eq (by omega) (by omega) (by omega) (by omega) (by omega) (by omega) (by omega) (by omega) (by omega) (by omega),
      show s + (x - flo (x * p) 1000000) + d - s - (x - flo (x * p) 1000000) = d by omega]
    simp only [Option.bind_some]
    have i1 : wrap64 (d + 1) = d + 1 := w64 (by omega) (by omega)
    have c0 : 0 ≤ cnt w d ∧ cnt w d ≤ 101 := by unfold cnt; split; omega; split <;> omega
    rw [i1, w64 (x := cnt w d + 1) (by omega) (by omega)]
    have ih := ih k (d + 1) (by omega) (by omega) (by omega) (by omega)
    by_cases h : -w ≤ d ∧ d ≤ w
    · rw [decide_eq_true h, if_pos rfl]
      have : cnt w d + 1 = cnt w (d + 1) := by unfold cnt; split <;> split <;> (try split) <;> (try split) <;> omega
      rw [this]; exact ih
    · rw [decide_eq_false h, if_neg (by simp)]
      have : cnt w d = cnt w (d + 1) := by unfold cnt; split <;> split <;> (try split) <;> (try split) <;> omega
      rw [this]; exact ih
theorem GuardWindow : drumlinelaw10_GuardWindow.Pure := by
  intro s x w p hs hx hw hp
  obtain ⟨x1, x2⟩ := wfu8 hx
  obtain ⟨w1, w2⟩ := wfu8 hw
  obtain ⟨p1, p2⟩ := wf16 hp
  refine ⟨104, ?_⟩
  unfold drumlinelaw10_GuardWindow.f
  rw [alive_true]
  simp only [Option.bind_some, if_true]
  have out : drumlinelaw10_GuardWindow.j0 104 s x w p true = some true := by
    simp only [drumlinelaw10_GuardWindow.j0, alive_true, if_true, Option.bind_some]
  by_cases h1 : s < -549755813888
  · rw [if_pos h1]; exact out
  rw [if_neg h1]
  by_cases h2 : s > 549755813888
  · rw [decide_eq_true h2]; exact out
  rw [decide_eq_false h2]
  obtain ⟨b1, b2⟩ := mul_bd (x := x) (p := p) (X := 255) (P := 32768) (by omega) (by omega) (by omega) (by omega)
  have f := flo_le (a := x * p) (b := 1000000) (by omega)
  simp only [drumlinelaw10_GuardWindow.j0, Bool.false_eq_true, if_false]
  rw [w64 (x := x) (by omega) (by omega), w64 (x := w) (by omega) (by omega), w64 (x := p) (by omega) (by omega), real_eq (by omega) (by omega) (by omega) (by omega), (rem_pos (a := w) (b := 40) w1).2]
  simp only [Option.bind_some]
  rw [w64 (x := s + (x - flo (x * p) 1000000)) (by omega) (by omega)]
  have c0 : cnt (w % 40) (-50) = 0 := by unfold cnt; rw [if_pos (by omega)]
  have := loop (s := s) (x := x) (p := p) (w := w % 40) (by omega) (by omega) x1 x2 p1 p2 (by omega) (by omega) 101 103 (-50) (by omega) (by omega) (by omega) (by omega)
  rw [c0] at this
  exact this

end Go.Proofs.Ytkbcmmkhphfkgaa.Pure
