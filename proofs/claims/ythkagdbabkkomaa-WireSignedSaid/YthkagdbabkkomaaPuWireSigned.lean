/- WireSigned, in plain Lean: for every input its printed form answers true. -/
import Derived.Test.YthkagdbabkkomaaPuWire
import Derived.Test.YthkagdbabkkomaaMWix21
import Derived.Test.YthkagdbabkkomaaPlain
set_option linter.unusedVariables false
set_option linter.unusedSimpArgs false
namespace Go.Proofs.Ythkagdbabkkomaa.Pure
open Go.RowKit Go.Proofs.Ythkagdbabkkomaa.MWi Go.Proofs.YthkagdbabkkomaaW.PrintWords Go.Proofs.YthkagdbabkkomaaW.PrintLast Go.Proofs.YthkagdbabkkomaaW.PrintMore Go.Proofs.Ythkagdbabkkomaa.Evl Go.Proofs.Ythkagdbabkkomaa.Wire
open Go.Proofs.Ythkagdbabkkomaa.Plain (wf64 wfu8)
theorem signedR_cases (n w : Int) : signedR n w = ([], false) ∨ ∃ m : Nat, m ≤ 6 ∧ -(128 * p m) ≤ n ∧ n < 128 * p m ∧ signedR n w = (enc n (m + 1), true) := by
  unfold signedR
  split
  · rename_i h
    obtain ⟨m, hm⟩ : ∃ m, w.toNat = m + 1 := ⟨w.toNat - 1, by omega⟩
    rw [hm] at h ⊢
    exact .inr ⟨m, by omega, h.2.2.1, h.2.2.2, rfl⟩
  · exact .inl rfl
theorem offR_enc (n : Int) (m : Nat) (h : m ≤ 6) (n0 : -(128 * p m) ≤ n) (n1 : n < 128 * p m) : offR (enc n (m + 1)) = n := by
  have hp := p_pos m
  have e2 : p (m + 1) = 256 * p m := rfl
  rw [offR, enc_len, if_pos (by omega), num_enc, show hf (m + 1) = 128 * p m from rfl]
  by_cases hn : 0 ≤ n
  · rw [Int.emod_eq_of_lt hn (by omega), if_neg (by omega)]
  · have e : n % p (m + 1) = n + p (m + 1) := by
      rw [← Int.add_emod_right]
      exact Int.emod_eq_of_lt (by omega) (by omega)
    rw [e, if_pos (by omega)]
    omega
theorem WireSigned : drumlinelaw3_WireSigned.Pure := by
  intro n w l h1 h2 h3 h4 h5
  have hb : Bys l := fun x hx => wfu8 (h5 x hx)
  have hn := wf64 h1
  have hd : ∀ b : Bool, Evl (fun k => drumlinelaw3_WireSigned.j0 k n w l b) true := by
    intro b
    refine Evl.succ ?_
    simp only [drumlinelaw3_WireSigned.j0]
    cases b with
    | true => exact Evl.now fun _ => rfl
    | false =>
      simp only [Bool.false_eq_true, if_false]
      refine Evl.bind (signed_evl n w hn.1 hn.2) (Evl.bind (rsigned_evl n w) ?_)
      simp only [if_true, beq_self_eq_true]
      refine Evl.bind (off_evl hb) (Evl.bind (roff_evl hb) ?_)
      simp only [if_true]
      rcases signedR_cases n w with e | ⟨m, m6, n0, n1, e⟩
      · rw [e]; exact Evl.now fun _ => rfl
      · rw [e]
        simp only [if_true]
        refine Evl.bind (off_evl (enc_bys n (m + 1))) (Evl.now fun _ => ?_)
        rw [offR_enc n m m6 n0 n1]
        simp
  refine Evl.some_ ?_
  simp only [drumlinelaw3_WireSigned.f, drumlinelaw3_alive.f, Option.bind_some, if_true]
  exact hd _
end Go.Proofs.Ythkagdbabkkomaa.Pure
