/- GuardTells: Late and Pass of the program are those of the document, for every guard and all numbers. -/
import Derived.Test.YtkbcmmkhphfkgaaGuGuardTells
import Derived.Test.YtkbcmmkhphfkgaaPlain
set_option linter.unusedVariables false
namespace Go.Proofs.Ytkbcmmkhphfkgaa.Pure
open Go.RowKit Go.Proofs.Ytkbcmmkhphfkgaa.GGuardTells Go.Proofs.YtkbcmmkhphfkgaaW.PrintWords Go.Proofs.YtkbcmmkhphfkgaaW.PrintLast Go.Proofs.YtkbcmmkhphfkgaaW.PrintMore Go.Proofs.Ytkbcmmkhphfkgaa.Plain

theorem alive_true : drumlinelaw10_alive.f = some true := by decide +kernel

theorem floor_eq {a b : Int} (h1 : -9223372036854775808 ≤ a) (h2 : a ≤ 9223372036854775807) : ticks_Floor.f a b = some (if b < 1 then (0, false) else (flo a b, true)) := by
  unfold ticks_Floor.f
  by_cases hb : b < 1
  · rw [if_pos hb, if_pos hb]
  · have ht := tdiv_le (a := a) (b := b) (by omega) h1 h2
    have hf := flo_bd (a := a) (b := b) (by omega) h1 h2
    have he := flo_trunc (a := a) (b := b) (by omega)
    rw [if_neg hb, if_neg (by omega), if_neg hb, w64 ht.1 ht.2]
    by_cases hm : Int.tmod a b < 0
    · rw [if_pos hm] at he ⊢
      rw [w64 (by omega) (by omega), he]
    · rw [if_neg hm] at he ⊢
      rw [he]

theorem scale_some (x p : Int) : ∃ r, ticks_Scale.f x p = some r := by
  unfold ticks_Scale.f ticks_Time.f
  have hf : ∃ r, ticks_Floor.f (wrap64 (x * p)) 1000000 = some r := by
    have := wf64 (wrap64_wf (x * p))
    rw [floor_eq this.1 this.2]; exact ⟨_, rfl⟩
  obtain ⟨r, hr⟩ := hf
  rw [hr]
  by_cases h : x ≥ -1099511627776
  · rw [if_pos h]
    simp only [Option.bind_some]
    split
    · split
      · exact ⟨_, rfl⟩
      · split <;> exact ⟨_, rfl⟩
    · exact ⟨_, rfl⟩
  · rw [if_neg h]
    exact ⟨_, rfl⟩
theorem real_some (x p : Int) : ∃ r, clock_Real.f x p = some r := by
  obtain ⟨r, hr⟩ := scale_some x p
  unfold clock_Real.f
  rw [hr]; exact ⟨_, rfl⟩

theorem time_some (x : Int) : ∃ r, ticks_Time.f x = some r := by
  unfold ticks_Time.f; split <;> exact ⟨_, rfl⟩
theorem late_some (o : Bool) (s : Int) (l : List Int) (x p t : Int) : ∃ r, guard_Late.f o s l x p t = some r := by
  obtain ⟨a, ha⟩ := time_some s
  obtain ⟨b, hb⟩ := time_some x
  obtain ⟨c, hc⟩ := time_some t
  obtain ⟨d, hd⟩ := real_some x p
  unfold guard_Late.f
  rw [ha, hb, hc, hd]
  simp only [Option.bind_some]
  cases o <;> cases a <;> cases b <;> cases c <;> exact ⟨_, rfl⟩
theorem ref_late (o : Bool) (s : Int) (l : List Int) (x p t : Int) : drumlineref10_Late.f o s l x p t = guard_Late.f o s l x p t := rfl
theorem pass_both (o : Bool) (s : Int) (l : List Int) (x p w t : Int) : ∃ r, guard_Pass.f o s l x p w t = some r ∧ drumlineref10_Pass.f o s l x p w t = some r := by
  obtain ⟨⟨n, b⟩, h⟩ := late_some o s l x p t
  unfold guard_Pass.f drumlineref10_Pass.f
  rw [ref_late, h]
  simp only [Option.bind_some]
  cases o
  · exact ⟨_, rfl, rfl⟩
  · cases b
    · exact ⟨_, rfl, rfl⟩
    · simp only [if_true]
      by_cases hw : w ≥ 0
      · rw [if_pos hw, if_pos hw]
        by_cases h1 : n ≥ wrap64 (-w)
        · rw [if_pos h1, decide_eq_true h1]
          by_cases h2 : n ≤ w
          · rw [if_pos h2, decide_eq_true h2]; exact ⟨_, rfl, rfl⟩
          · rw [if_neg h2, decide_eq_false h2]; exact ⟨_, rfl, rfl⟩
        · rw [if_neg h1, decide_eq_false h1]
          by_cases h2 : n ≤ w
          · rw [if_pos h2]; exact ⟨_, rfl, rfl⟩
          · rw [if_neg h2]; exact ⟨_, rfl, rfl⟩
      · rw [if_neg hw, if_neg hw]; exact ⟨_, rfl, rfl⟩
theorem GuardTells (o : Bool) (s : Int) (l : List Int) (x p w t : Int) (_ : (Lit.int .i64 s).wf = true) (_ : (∀ x ∈ l, (fun n => (Lit.int .i64 n).wf = true) x) ∧ l.length ≤ 9223372036854775807)
    (_ : (Lit.int .i64 x).wf = true) (_ : (Lit.int .i64 p).wf = true) (_ : (Lit.int .i64 w).wf = true) (_ : (Lit.int .i64 t).wf = true) : ∃ k, drumlinelaw10_GuardTells.f k o s l x p w t = some true := by
  refine ⟨1, ?_⟩
  unfold drumlinelaw10_GuardTells.f
  rw [alive_true]
  simp only [Option.bind_some, if_true]
  obtain ⟨⟨n, b⟩, h⟩ := late_some o s l x p t
  obtain ⟨r, h1, h2⟩ := pass_both o s l x p w t
  cases hd : decide ((l.length : Int) > 20) with
  | true => simp only [drumlinelaw10_GuardTells.j0, alive_true, if_true, Option.bind_some]
  | false =>
    simp only [drumlinelaw10_GuardTells.j0, Bool.false_eq_true, if_false]
    rw [ref_late, h, h1, h2]
    simp

end Go.Proofs.Ytkbcmmkhphfkgaa.Pure
