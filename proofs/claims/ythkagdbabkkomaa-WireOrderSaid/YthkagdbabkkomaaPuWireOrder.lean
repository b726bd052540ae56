/- WireOrder, in plain Lean: for every input its printed form answers true. -/
import Derived.Test.YthkagdbabkkomaaPuWire
import Derived.Test.YthkagdbabkkomaaMWix17
import Derived.Test.YthkagdbabkkomaaPlain
set_option linter.unusedVariables false
set_option linter.unusedSimpArgs false
namespace Go.Proofs.Ythkagdbabkkomaa.Pure
open Go.RowKit Go.Proofs.Ythkagdbabkkomaa.MWi Go.Proofs.YthkagdbabkkomaaW.PrintWords Go.Proofs.YthkagdbabkkomaaW.PrintLast Go.Proofs.YthkagdbabkkomaaW.PrintMore Go.Proofs.Ythkagdbabkkomaa.Evl Go.Proofs.Ythkagdbabkkomaa.Wire
open Go.Proofs.Ythkagdbabkkomaa.Plain (wf64 wfu8)
theorem WireOrder : drumlinelaw3_WireOrder.Pure := by
  intro a b w h1 h2 h3
  have hw := wfu8 h3
  refine Evl.some_ ?_
  simp only [drumlinelaw3_WireOrder.f, drumlinelaw3_alive.f]
  have hm : 0 ≤ Int.tmod w 7 ∧ Int.tmod w 7 ≤ 6 := by
    rw [Int.tmod_eq_emod_of_nonneg hw.1]; omega
  rw [w64 (x := w) (by omega) (by omega), w64 (x := 1 + Int.tmod w 7) (by omega) (by omega)]
  obtain ⟨m, hm'⟩ : ∃ m : Nat, 1 + Int.tmod w 7 = (m : Int) := ⟨(1 + Int.tmod w 7).toNat, by omega⟩
  rw [hm']
  refine Evl.bind (plain_evl a m) (Evl.bind (plain_evl b m) ?_)
  simp only [Option.bind_some, if_true]
  have yes : ∀ x : Int, 0 ≤ x ∧ x < p m → plainR x m = (enc x m, true) := fun x h => by
    rw [plainR, Int.toNat_natCast, if_pos ⟨by omega, by omega, h.1, h.2⟩]
  have no : ∀ x : Int, ¬ (0 ≤ x ∧ x < p m) → plainR x m = ([], false) := fun x h => by
    rw [plainR, Int.toNat_natCast, if_neg (by omega)]
  by_cases ha : 0 ≤ a ∧ a < p m
  · rw [yes a ha]
    by_cases hb : 0 ≤ b ∧ b < p m
    · rw [yes b hb]
      simp only [if_true, enc_len]
      have ea := num_enc a m
      have eb := num_enc b m
      rw [Int.emod_eq_of_lt ha.1 ha.2] at ea
      rw [Int.emod_eq_of_lt hb.1 hb.2] at eb
      have el : Op.bytesLess ((strOfNums (enc a m)).toList) ((strOfNums (enc b m)).toList) = decide (a < b) := by
        rw [str_list, str_list, less_enc, ea, eb]
      have ee : ((strOfNums (enc a m)).toList == (strOfNums (enc b m)).toList) = (a == b) := by
        by_cases h : a = b
        · subst h; simp
        · have : enc a m ≠ enc b m := fun k => h (by rw [← ea, ← eb, k])
          have k : (strOfNums (enc a m)).toList ≠ (strOfNums (enc b m)).toList := fun k => this ((str_same (enc_bys a m) (enc_bys b m)).1 k)
          rw [beq_eq_false_iff_ne.2 k, beq_eq_false_iff_ne.2 h]
      rw [el, ee]
      exact Evl.now fun _ => by simp
    · rw [no b hb]
      exact Evl.now fun _ => rfl
  · rw [no a ha]
    exact Evl.now fun _ => rfl
end Go.Proofs.Ythkagdbabkkomaa.Pure
