/- Texts of this claim, laid together by a program (wip/e/merge2.py): PuLb. -/
import Derived.Test.YtaaifdclojkdmaaDoorZFr24
import Derived.Test.YtaaifdclojkdmaaDoorZFr36
set_option linter.unusedVariables false
set_option linter.unusedSimpArgs false
set_option maxRecDepth 100000
namespace Go.Proofs.YtaaifdclojkdmaaDoor.MFr
open Go.RowKit Go.Proofs.YtaaifdclojkdmaaDoorW.PrintWords Go.Proofs.YtaaifdclojkdmaaDoorW.PrintLast Go.Proofs.YtaaifdclojkdmaaDoorW.PrintMore Go.Proofs.YtaaifdclojkdmaaDoor.Wire Go.Proofs.YtaaifdclojkdmaaDoor.Evl Go.Proofs.YtaaifdclojkdmaaDoor.PSum Go.Proofs.YtaaifdclojkdmaaDoor.Sum
theorem back_j (f : Fr) (h : In f) (ho : Ok f) (b : Bool) : Evl (fun k => drumlinelaw4_FrameBack.j0 k b f.k f.p f.n f.wt f.msk f.lk f.fl f.cy f.of_ f.ag f.f1 f.f2 f.sq f.bd) true := by
 cases b with
 | true =>
  refine Evl.step (fun k => ?_) (Evl.bind alive_evl (Evl.now fun _ => rfl) : Evl (fun k => (drumlinelaw4_alive.f k).bind fun t => some t) true)
  simp only [drumlinelaw4_FrameBack.j0, if_true]
 | false =>
  obtain ⟨r1, e1, i1⟩ := same_evl (f := f) (g := f) h.ag h.bd h.bd
  obtain ⟨r2, e2, i2⟩ := rsame_evl (f := f) (g := f) h.ag h.bd h.bd
  rw [i1.2 rfl] at e1
  rw [i2.2 rfl] at e2
  refine Evl.succ ?_
  simp only [drumlinelaw4_FrameBack.j0, Bool.false_eq_true, if_false]
  refine Evl.bind ((encode_evl h.ag h.bd h.of_).1 ho) ?_
  dsimp only
  rw [decode_back ho h.bd]
  simp only [Option.bind_some, if_true]
  refine Evl.bind e1 ?_
  simp only [if_true]
  exact Evl.bind e2 (Evl.now fun _ => rfl)
theorem FrameBack_ (f : Fr) (h : In f) : Evl (fun k => drumlinelaw4_FrameBack.f k f.k f.p f.n f.wt f.msk f.lk f.fl f.cy f.of_ f.ag f.f1 f.f2 f.sq f.bd) true := by
 unfold drumlinelaw4_FrameBack.f
 refine Evl.bind alive_evl ?_
 simp only [if_true]
 rw [small_is]
 simp only [Option.bind_some]
 have triv : Evl (fun k => drumlinelaw4_FrameBack.j0 k true f.k f.p f.n f.wt f.msk f.lk f.fl f.cy f.of_ f.ag f.f1 f.f2 f.sq f.bd) true := by
  refine Evl.step (fun k => ?_) (Evl.bind alive_evl (Evl.now fun _ => rfl) : Evl (fun k => (drumlinelaw4_alive.f k).bind fun t => some t) true)
  simp only [drumlinelaw4_FrameBack.j0, if_true]
 by_cases hs : f.ag.length ≤ 40 ∧ f.bd.length ≤ 100
 ·simp only [decide_eq_true hs, if_true]
  obtain ⟨r, er, ir⟩ := rmay_evl (f := f) h.ag h.bd
  refine Evl.bind er ?_
  cases r with
  | true => exact back_j f h (ir.1 rfl) _
  | false => exact triv
 ·simp only [decide_eq_false hs, Bool.false_eq_true, if_false]
  exact triv
end Go.Proofs.YtaaifdclojkdmaaDoor.MFr
