/- Texts of this claim, laid together by a program (wip/g/merge3.py): MWox93. -/
import Derived.Test.YtbefbhghmommhaaGreatDoorZWb15
import Derived.Test.YtbefbhghmommhaaGreatDoorZWb3
import Derived.Test.YtbefbhghmommhaaGreatDoorZWb8
import Derived.Test.YtbefbhghmommhaaGreatDoorZWb11
import Derived.Test.YtbefbhghmommhaaGreatDoorZWb14
namespace Go.Proofs.YtbefbhghmommhaaGreatDoor.MWo
open Go.RowKit Go.Proofs.YtbefbhghmommhaaGreatDoorW.PrintWords Go.Proofs.YtbefbhghmommhaaGreatDoorW.PrintLast Go.Proofs.YtbefbhghmommhaaGreatDoorW.PrintMore
attribute [local go_sem] mp_u32s mp_u32m mp_u8s mp_u8m max2_int min2_int max_two min_two max_three min_three max_four min_four
set_option linter.unusedVariables false
set_option linter.unusedSimpArgs false
def dr5_Fit.f (l0_0 : List S68) (l0_1 : List S71) (a0_2 a0_3 a0_4 a0_5 a0_6 a0_7 a0_8 a0_9 a0_10 a0_11 a0_12 : Int) (a1 : Int) : Option Bool := if netB l0_0 l0_1 = true ∧ 0 ≤ a1 ∧ a1 < (l0_0.length : Int) ∧ rangeOk a0_2 a0_6 a0_7 a0_8 a0_9 then (dr5_dists.f 100 l0_0 l0_1 a0_2 a0_3 a0_4 a0_5 a0_6 a0_7 a0_8 a0_9 a0_10 a0_11 a0_12 0).bind fun d => if d.length ≤ 6 ∧ d.all (fun x => decide (0 ≤ x)) = true then (dr5_edge.f l0_0 l0_1 a0_2 a0_3 a0_4 a0_5 a0_6 a0_7 a0_8 a0_9 a0_10 a0_11 a0_12).bind fun e => (dr5_jump.f l0_0 l0_1 a0_2 a0_3 a0_4 a0_5 a0_6 a0_7 a0_8 a0_9 a0_10 a0_11 a0_12).bind fun j => if fitsC l0_0 l0_1 a0_2 a0_3 a0_4 a0_5 a0_6 a0_7 a0_8 a0_9 a0_10 a0_11 a0_12 e j = true then some true else none else none else none
theorem dr5_Fit.calls (A0_0 : Option Addr) (c0_0 : Nat) (l0_0 : List S68) (A0_1 : Option Addr) (c0_1 : Nat) (l0_1 : List S71) (a0_2 a0_3 a0_4 a0_5 a0_6 a0_7 a0_8 a0_9 a0_10 a0_11 a0_12 : Int) (a1 : Int) (r : Bool) (w : World) (hr0_0 : Kd.C k68 w A0_0 l0_0.length l0_0) (hc0_0 : l0_0.length ≤ c0_0) (hr0_1 : Kd.C k71 w A0_1 l0_1.length l0_1) (hc0_1 : l0_1.length ≤ c0_1) (h : dr5_Fit.f l0_0 l0_1 a0_2 a0_3 a0_4 a0_5 a0_6 a0_7 a0_8 a0_9 a0_10 a0_11 a0_12 a1 = some r) :
  Calls Tryz.prog 44 #[.agg #[.slice A0_0 l0_0.length c0_0, .slice A0_1 l0_1.length c0_1, .int .i64 a0_2, .int .i64 a0_3, .int .i64 a0_4, .int .i64 a0_5, .int .i64 a0_6, .int .i64 a0_7, .int .i64 a0_8, .int .i64 a0_9, .int .i64 a0_10, .int .i64 a0_11, .int .i64 a0_12], .int .i64 a1] w fun e w' => e = .returned (.bool r) ∧ Below w.heap.size w w' := by
 unfold dr5_Fit.f at h
 split at h
 ·rename_i hn
  obtain ⟨hn1, hn2, hn3, hn4⟩ := hn
  obtain ⟨d, hd, h⟩ := Option.bind_eq_some_iff.mp h
  split at h
  ·rename_i hq
   obtain ⟨e, he, h⟩ := Option.bind_eq_some_iff.mp h
   obtain ⟨j, hj, h⟩ := Option.bind_eq_some_iff.mp h
   split at h
   ·rename_i hf
    injection h with h
    subst h
    exact fit_yes A0_0 c0_0 l0_0 A0_1 c0_1 l0_1 a0_2 a0_3 a0_4 a0_5 a0_6 a0_7 a0_8 a0_9 a0_10 a0_11 a0_12 e j w hr0_0 hc0_0 hr0_1 hc0_1 (fitsC_ok hf he hj) (netB_ok hn1) d hd (fun x hx => of_decide_eq_true (List.all_eq_true.mp hq.2 x hx)) hq.1 hn4 a1 hn2 hn3
   ·cases h
  ·cases h
 ·cases h
end Go.Proofs.YtbefbhghmommhaaGreatDoor.MWo
