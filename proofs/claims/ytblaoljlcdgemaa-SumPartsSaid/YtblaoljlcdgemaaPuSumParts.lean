/- SumParts: bytes summed in whatever parts come to the sum of the whole. No conditions. -/
import Derived.Test.YtblaoljlcdgemaaMSx7
import Derived.Test.YtblaoljlcdgemaaPuSum
set_option linter.unusedVariables false
set_option linter.unusedSimpArgs false
namespace Go.Proofs.Ytblaoljlcdgemaa.Pure
open Go.RowKit Go.Proofs.Ytblaoljlcdgemaa.MS Go.Proofs.YtblaoljlcdgemaaW.PrintWords Go.Proofs.YtblaoljlcdgemaaW.PrintLast Go.Proofs.YtblaoljlcdgemaaW.PrintMore Go.Proofs.Ytblaoljlcdgemaa.Plain Go.Proofs.Ytblaoljlcdgemaa.Evl Go.Proofs.Ytblaoljlcdgemaa.Sum

theorem parts_loop {l : List (List Int)} (hb : ∀ x ∈ l, Bys x) (hl : l.length ≤ 60) (d : Nat) : ∀ (i : Int) (all : List Int), 0 ≤ i → i + d = l.length → Bys all → (all.length : Int) ≤ 100 * i →
    Evl (fun k => drumlinelaw2_SumParts.l0 k l all (V (more 0#32 (L all))) i) true := by
  induction d with
  | zero =>
    intro i all h0 h1 h2 h3
    refine Evl.stop (fun k => ?_)
    simp only [drumlinelaw2_SumParts.l0]
    rw [if_neg (by omega)]
  | succ d ih =>
    intro i all h0 h1 h2 h3
    have hm : rd_L1 l i ∈ l := by
      unfold rd_L1
      rw [List.getD_eq_getElem?_getD, List.getElem?_eq_getElem (by omega)]
      simp
    have hbi := hb _ hm
    refine Evl.succ ?_
    simp only [drumlinelaw2_SumParts.l0, if_pos (show i < (l.length : Int) by omega), if_pos h0]
    by_cases e : ((rd_L1 l i).length : Int) > 100
    · simp only [if_pos e]; exact Evl.now fun _ => rfl
    simp only [if_neg e]
    have hall := bys_append h2 hbi
    refine Evl.bind (more_evl hbi (by omega) _) ?_
    simp only [if_pos (show all.length + (rd_L1 l i).length < 140737488355328 by omega), Option.bind_some]
    refine Evl.bind (of_evl hall (by simp; omega)) ?_
    rw [L_append, more_append]
    simp only [if_true]
    refine Evl.bind (more_evl (l := []) (fun x hx => by simp at hx) (by simp) _) ?_
    have e0 : L [] = [] := rfl
    rw [e0, more_nil]
    simp only [if_true]
    rw [← more_append, ← L_append, w64 (x := i + 1) (by omega) (by omega)]
    exact ih (i + 1) (all ++ rd_L1 l i) (by omega) (by omega) hall (by simp; omega)
theorem SumParts (l : List (List Int)) (h : (∀ x ∈ l, (fun (l : List (Int)) => (∀ x ∈ l, (fun (n : Int) => (Lit.int .u8 n).wf = true) x) ∧ l.length ≤ 9223372036854775807) x) ∧ l.length ≤ 9223372036854775807) : ∃ k, drumlinelaw2_SumParts.f k l = some true := by
  refine Evl.some_ ?_
  unfold drumlinelaw2_SumParts.f
  refine Evl.bind alive_evl ?_
  simp only [if_true]
  by_cases e : (l.length : Int) > 60
  · simp only [decide_eq_true e]
    refine Evl.succ ?_
    simp only [drumlinelaw2_SumParts.j0, if_true]
    exact Evl.bind alive_evl (Evl.now fun _ => rfl)
  · simp only [decide_eq_false e]
    refine Evl.succ ?_
    simp only [drumlinelaw2_SumParts.j0, Bool.false_eq_true, if_false]
    refine Evl.bind (of_evl (l := []) (fun x hx => by simp at hx) (by simp)) ?_
    exact parts_loop (fun x hx => bys_of (h.1 x hx).1) (by omega) l.length 0 [] (by omega) (by omega) (fun x hx => by simp at hx) (by simp)

end Go.Proofs.Ytblaoljlcdgemaa.Pure
