/- Scale of the program is that of the document, for every two 64-bit numbers. No conditions. -/
import Derived.Test.YtblaoljlcdgemaaPTicksScalesx1
import Derived.Test.YtblaoljlcdgemaaPlain
set_option linter.unusedVariables false
set_option linter.unusedSimpArgs false
namespace Go.Proofs.Ytblaoljlcdgemaa.Pure
open Go.RowKit Go.Proofs.Ytblaoljlcdgemaa.PTicksScales Go.Proofs.YtblaoljlcdgemaaW.PrintWords Go.Proofs.YtblaoljlcdgemaaW.PrintLast Go.Proofs.YtblaoljlcdgemaaW.PrintMore Go.Proofs.Ytblaoljlcdgemaa.Plain

theorem alive_true : drumlinelaw1_alive.f 1 = some true := by decide +kernel
theorem alive_two : drumlinelaw1_alive.f 2 = some true := by decide +kernel

theorem floor_eq {a b : Int} (h1 : -9223372036854775808 ≤ a) (h2 : a ≤ 9223372036854775807) : ticks_Floor.f a b = some (if b < 1 then (0, false) else (flo a b, true)) := by
  unfold ticks_Floor.f
  by_cases hb : b < 1
  · rw [if_pos hb, if_pos hb]
  · have ht := tdiv_le (a := a) (b := b) (by omega) h1 h2
    have hf := flo_bd (a := a) (b := b) (by omega) h1 h2
    have he := flo_trunc (a := a) (b := b) (by omega)
    rw [if_neg hb, if_neg (by omega), if_neg hb, w64 ht.1 ht.2]
    by_cases hm : Int.tmod a b < 0
    · rw [if_pos hm] at he ⊢
      rw [w64 (by omega) (by omega), he]
    · rw [if_neg hm] at he ⊢
      rw [he]
theorem ceil_eq {a b : Int} (h1 : -9223372036854775808 ≤ a) (h2 : a < 9223372036854775807) : ticks_Ceil.f a b = some (if b < 1 then (0, false) else (cei a b, true)) := by
  unfold ticks_Ceil.f
  by_cases hb : b < 1
  · rw [if_pos hb, if_pos hb]
  · have ht := tdiv_le (a := a) (b := b) (by omega) h1 (by omega)
    have he := cei_trunc (a := a) (b := b) (by omega)
    rw [if_neg hb, if_neg (by omega), if_neg hb, w64 ht.1 ht.2]
    by_cases hm : Int.tmod a b > 0
    · rw [if_pos hm] at he ⊢
      have h3 : Int.tdiv a b ≤ a := by
        rcases Int.lt_or_le a 0 with h | h
        · obtain ⟨e1, e2⟩ := rem_neg (b := b) h
          have := Int.emod_nonneg (-a) (show b ≠ 0 by omega)
          omega
        · rw [(rem_pos (b := b) h).1]; exact Int.ediv_le_self _ h
      rw [w64 (by omega) (by omega), he]
    · rw [if_neg hm] at he ⊢
      rw [he]

theorem scale_some (x p : Int) : ∃ r, ticks_Scale.f x p = some r := by
  unfold ticks_Scale.f ticks_Time.f
  have hf : ∃ r, ticks_Floor.f (wrap64 (x * p)) 1000000 = some r := by
    have := wf64 (wrap64_wf (x * p))
    rw [floor_eq this.1 this.2]; exact ⟨_, rfl⟩
  obtain ⟨r, hr⟩ := hf
  rw [hr]
  by_cases h : x ≥ -1099511627776
  · rw [if_pos h]
    simp only [Option.bind_some]
    split
    · split
      · exact ⟨_, rfl⟩
      · split <;> exact ⟨_, rfl⟩
    · exact ⟨_, rfl⟩
  · rw [if_neg h]
    exact ⟨_, rfl⟩
theorem TicksScales : drumlinelaw1_TicksScales.Pure := by
  intro a b ha hb
  refine ⟨1, ?_⟩
  have e1 : drumlineref1_Scale.f a b = ticks_Scale.f a b := rfl
  obtain ⟨p, hp⟩ := scale_some a b
  unfold drumlinelaw1_TicksScales.f
  rw [alive_true, e1, hp]
  simp

end Go.Proofs.Ytblaoljlcdgemaa.Pure
