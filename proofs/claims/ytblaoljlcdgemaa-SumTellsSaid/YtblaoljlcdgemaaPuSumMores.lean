/- SumMores: More of the program is the document's, for any sum and whatever bytes. No conditions. -/
import Derived.Test.YtblaoljlcdgemaaMSx4
import Derived.Test.YtblaoljlcdgemaaPuSum
set_option linter.unusedVariables false
set_option linter.unusedSimpArgs false
namespace Go.Proofs.Ytblaoljlcdgemaa.Pure
open Go.RowKit Go.Proofs.Ytblaoljlcdgemaa.MS Go.Proofs.YtblaoljlcdgemaaW.PrintWords Go.Proofs.YtblaoljlcdgemaaW.PrintLast Go.Proofs.YtblaoljlcdgemaaW.PrintMore Go.Proofs.Ytblaoljlcdgemaa.Plain Go.Proofs.Ytblaoljlcdgemaa.Evl Go.Proofs.Ytblaoljlcdgemaa.Sum

theorem eight_loop (d : Nat) : ∀ (i : Int) (x : BitVec 32), 0 ≤ i → i + d = 8 → Evl (fun k => drumlineref1_Eight.l0 k (V x) i) (V (stpn d x)) := by
  induction d with
  | zero =>
    intro i x h0 h1
    refine Evl.stop (fun k => ?_)
    simp only [drumlineref1_Eight.l0, stpn]
    rw [if_neg (by omega)]
  | succ d ih =>
    intro i x h0 h1
    refine Evl.step (fun k => ?_) (ih (i + 1) (stp x) (by omega) (by omega))
    simp only [drumlineref1_Eight.l0]
    have hx := V_lt x
    have hm := msb_nat x
    rw [if_pos (by omega), w64 (x := i + 1) (by omega) (by omega)]
    cases e : x.msb with
    | false =>
      rw [e] at hm
      have : ¬ 2147483648 ≤ x.toNat := of_decide_eq_false hm.symm
      rw [if_neg (by unfold V; omega), stp_V0 e]
    | true =>
      rw [e] at hm
      have : 2147483648 ≤ x.toNat := of_decide_eq_true hm.symm
      rw [if_pos (by unfold V at hx ⊢; omega), stp_V1 e]
theorem eight_evl (x : BitVec 32) : Evl (fun k => drumlineref1_Eight.f k (V x)) (V (st8 x)) := eight_loop 8 0 x (by omega) (by omega)
theorem rmore_loop {l : List Int} (hb : Bys l) (hl : l.length ≤ 100000) (d : Nat) : ∀ (i : Int) (x : BitVec 32), 0 ≤ i → i + d = l.length → Evl (fun k => drumlineref1_More.l0 k (V x) l i) (V (~~~ (run x (L (l.drop i.toNat))))) := by
  induction d with
  | zero =>
    intro i x h0 h1
    refine Evl.stop (fun k => ?_)
    simp only [drumlineref1_More.l0]
    rw [if_neg (by omega), List.drop_eq_nil_of_le (by omega), not_V]
    rfl
  | succ d ih =>
    intro i x h0 h1
    have e : l.drop i.toNat = rd l i :: l.drop (i + 1).toNat := by
      rw [List.drop_eq_getElem_cons (by omega), show (i + 1).toNat = i.toNat + 1 by omega]
      unfold rd
      simp [List.getD_eq_getElem?_getD, List.getElem?_eq_getElem (show i.toNat < l.length by omega)]
    have hc := hb (rd l i) (by
      unfold rd
      rw [List.getD_eq_getElem?_getD, List.getElem?_eq_getElem (by omega)]
      simp)
    refine Evl.succ ?_
    simp only [drumlineref1_More.l0, if_pos (show i < (l.length : Int) by omega), if_pos h0]
    rw [top_V hc.1 hc.2, xor_V, w64 (x := i + 1) (by omega) (by omega)]
    refine Evl.bind (eight_evl _) ?_
    have := ih (i + 1) (st8 (x ^^^ top (byt (rd l i)))) (by omega) (by omega)
    rw [e]
    exact this
theorem rmore_evl {l : List Int} (hb : Bys l) (hl : l.length ≤ 100000) (s : BitVec 32) : Evl (fun k => drumlineref1_More.f k (V s) l) (V (more s (L l))) := by
  unfold drumlineref1_More.f
  rw [not_V]
  exact rmore_loop hb hl l.length 0 (~~~ s) (by omega) (by omega)

theorem SumMores : drumlinelaw2_SumMores.Pure := by
  intro s l hs _ _ hb
  obtain ⟨s0, s1⟩ := wfu32 hs
  refine Evl.some_ ?_
  unfold drumlinelaw2_SumMores.f
  refine Evl.bind alive_evl ?_
  simp only [if_true]
  by_cases h : (l.length : Int) > 1500
  · simp only [decide_eq_true h]
    refine Evl.succ ?_
    simp only [drumlinelaw2_SumMores.j0, if_true]
    exact Evl.bind alive_evl (Evl.now fun _ => rfl)
  · simp only [decide_eq_false h]
    refine Evl.succ ?_
    simp only [drumlinelaw2_SumMores.j0, Bool.false_eq_true, if_false]
    rw [← V_of s0 s1]
    refine Evl.bind (more_evl (bys_of hb) (by omega) _) (Evl.bind (rmore_evl (bys_of hb) (by omega) _) (Evl.now fun _ => ?_))
    simp

end Go.Proofs.Ytblaoljlcdgemaa.Pure
