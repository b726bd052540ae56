/- WireBack, in plain Lean: for every input its printed form answers true. -/
import Derived.Test.YthkagdbabkkomaaPuWire
import Derived.Test.YthkagdbabkkomaaMWix22
import Derived.Test.YthkagdbabkkomaaPlain
set_option linter.unusedVariables false
set_option linter.unusedSimpArgs false
namespace Go.Proofs.Ythkagdbabkkomaa.Pure
open Go.RowKit Go.Proofs.Ythkagdbabkkomaa.MWi Go.Proofs.YthkagdbabkkomaaW.PrintWords Go.Proofs.YthkagdbabkkomaaW.PrintLast Go.Proofs.YthkagdbabkkomaaW.PrintMore Go.Proofs.Ythkagdbabkkomaa.Evl Go.Proofs.Ythkagdbabkkomaa.Wire
open Go.Proofs.Ythkagdbabkkomaa.Plain (wf64 wfu8)
theorem plain_back {l : List Int} (hb : Bys l) (h1 : 1 ≤ l.length) (h7 : l.length ≤ 7) : plainR (num l) (l.length : Int) = (l, true) := by
  have hi := num_in hb
  rw [plainR, Int.toNat_natCast, if_pos ⟨by omega, by omega, hi.1, hi.2⟩, enc_num hb]
theorem signed_back {l : List Int} (hb : Bys l) (h1 : 1 ≤ l.length) (h7 : l.length ≤ 7) : signedR (offR l) (l.length : Int) = (l, true) := by
  obtain ⟨m, hm⟩ : ∃ m, l.length = m + 1 := ⟨l.length - 1, by omega⟩
  have hi := num_in hb
  have hp := p_pos m
  have e2 : p l.length = 256 * p m := by rw [hm]; rfl
  have e3 : hf l.length = 128 * p m := by rw [hm]; rfl
  have e : enc (offR l) l.length = l ∧ -(hf l.length) ≤ offR l ∧ offR l < hf l.length := by
    rw [offR, if_pos ⟨h1, h7⟩]
    by_cases h : num l ≥ hf l.length
    · rw [if_pos h]
      refine ⟨?_, by omega, by omega⟩
      have := enc_add (num l) (-1) l.length
      rw [show num l + -1 * p l.length = num l - p l.length by omega] at this
      rw [this, enc_num hb]
    · rw [if_neg h]
      exact ⟨enc_num hb, by omega, by omega⟩
  rw [signedR, Int.toNat_natCast, if_pos ⟨by omega, by omega, e.2.1, e.2.2⟩, e.1]
theorem offR_in {l : List Int} (hb : Bys l) : -9223372036854775808 ≤ offR l ∧ offR l ≤ 9223372036854775807 := by
  unfold offR
  split
  · rename_i h
    have hi := num_in hb
    have hp := p_le7 l.length h.2
    split <;> omega
  · omega
theorem WireBack : drumlinelaw3_WireBack.Pure := by
  intro l h3 h4 h5
  have hb : Bys l := fun x hx => wfu8 (h5 x hx)
  have ht : Evl (fun k => drumlinelaw3_WireBack.j0 k l true) true := Evl.succ (by
    simp only [drumlinelaw3_WireBack.j0]
    exact Evl.now fun _ => rfl)
  refine Evl.some_ ?_
  simp only [drumlinelaw3_WireBack.f, drumlinelaw3_alive.f, Option.bind_some, if_true]
  by_cases h0 : (l.length : Int) = 0
  · simp only [if_pos h0]; exact ht
  · simp only [if_neg h0]
    by_cases h7 : (l.length : Int) > 7
    · simp only [decide_eq_true h7]; exact ht
    · simp only [decide_eq_false h7]
      refine Evl.succ ?_
      simp only [drumlinelaw3_WireBack.j0, Bool.false_eq_true, if_false]
      have l1 : 1 ≤ l.length := by omega
      have l7 : l.length ≤ 7 := by omega
      have en : numR l = num l := if_pos ⟨l1, l7⟩
      refine Evl.bind (num_evl hb) (Evl.bind (plain_evl _ _) (Evl.bind (off_evl hb) (Evl.bind (signed_evl _ _ (offR_in hb).1 (offR_in hb).2) ?_)))
      rw [en, plain_back hb l1 l7, signed_back hb l1 l7]
      exact Evl.now fun _ => by simp
end Go.Proofs.Ythkagdbabkkomaa.Pure
