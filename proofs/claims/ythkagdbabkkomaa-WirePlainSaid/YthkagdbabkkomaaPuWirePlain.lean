/- WirePlain, in plain Lean: for every input its printed form answers true. -/
import Derived.Test.YthkagdbabkkomaaPuWire
import Derived.Test.YthkagdbabkkomaaMWix15
import Derived.Test.YthkagdbabkkomaaPlain
set_option linter.unusedVariables false
set_option linter.unusedSimpArgs false
namespace Go.Proofs.Ythkagdbabkkomaa.Pure
open Go.RowKit Go.Proofs.Ythkagdbabkkomaa.MWi Go.Proofs.YthkagdbabkkomaaW.PrintWords Go.Proofs.YthkagdbabkkomaaW.PrintLast Go.Proofs.YthkagdbabkkomaaW.PrintMore Go.Proofs.Ythkagdbabkkomaa.Evl Go.Proofs.Ythkagdbabkkomaa.Wire
open Go.Proofs.Ythkagdbabkkomaa.Plain (wf64 wfu8)
theorem plainR_cases (n w : Int) : plainR n w = ([], false) ∨ ∃ m : Nat, 1 ≤ m ∧ m ≤ 7 ∧ 0 ≤ n ∧ n < p m ∧ plainR n w = (enc n m, true) := by
  unfold plainR
  split
  · rename_i h
    exact .inr ⟨w.toNat, by omega, by omega, h.2.2.1, h.2.2.2, rfl⟩
  · exact .inl rfl
theorem WirePlain : drumlinelaw3_WirePlain.Pure := by
  intro n w l h1 h2 h3 h4 h5
  have hb : Bys l := fun x hx => wfu8 (h5 x hx)
  have hd : ∀ b : Bool, Evl (fun k => drumlinelaw3_WirePlain.j0 k n w l b) true := by
    intro b
    refine Evl.succ ?_
    simp only [drumlinelaw3_WirePlain.j0]
    cases b with
    | true => exact Evl.now fun _ => rfl
    | false =>
      simp only [Bool.false_eq_true, if_false]
      refine Evl.bind (plain_evl n w) (Evl.bind (rplain_evl n w) ?_)
      simp only [if_true, beq_self_eq_true]
      refine Evl.bind (num_evl hb) (Evl.bind (rnum_evl hb) ?_)
      simp only [if_true]
      rcases plainR_cases n w with e | ⟨m, m1, m7, n0, n1, e⟩
      · rw [e]; exact Evl.now fun _ => rfl
      · rw [e]
        simp only [if_true]
        refine Evl.bind (num_evl (enc_bys n m)) (Evl.now fun _ => ?_)
        rw [numR, enc_len, if_pos ⟨m1, m7⟩, num_enc, Int.emod_eq_of_lt n0 n1]
        simp
  refine Evl.some_ ?_
  simp only [drumlinelaw3_WirePlain.f, drumlinelaw3_alive.f, Option.bind_some, if_true]
  exact hd _
end Go.Proofs.Ythkagdbabkkomaa.Pure
