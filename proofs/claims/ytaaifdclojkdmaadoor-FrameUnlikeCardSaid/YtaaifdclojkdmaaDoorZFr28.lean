/- Texts of this claim, laid together by a program (wip/e/merge2.py): PuLu. -/
import Derived.Test.YtaaifdclojkdmaaDoorZFr24
import Derived.Test.YtaaifdclojkdmaaDoorZFr27
set_option linter.unusedVariables false
set_option linter.unusedSimpArgs false
set_option maxRecDepth 100000
namespace Go.Proofs.YtaaifdclojkdmaaDoor.MFr
open Go.RowKit Go.Proofs.YtaaifdclojkdmaaDoorW.PrintWords Go.Proofs.YtaaifdclojkdmaaDoorW.PrintLast Go.Proofs.YtaaifdclojkdmaaDoorW.PrintMore Go.Proofs.YtaaifdclojkdmaaDoor.Wire Go.Proofs.YtaaifdclojkdmaaDoor.Evl Go.Proofs.YtaaifdclojkdmaaDoor.PSum Go.Proofs.YtaaifdclojkdmaaDoor.Sum
theorem enc_inj {f g : Fr} (hf : Ok f) (hg : Ok g) (h : sld (encF f) = sld (encF g)) : f = g := by
 have h1 := parse_back hf
 rw [h, parse_back hg] at h1
 exact (congrArg Prod.fst h1).symm
theorem FrameUnlike_ (f g : Fr) (h : In f) (hg : In g) : Evl (fun k => drumlinelaw4_FrameUnlike.f k f.k f.p f.n f.wt f.msk f.lk f.fl f.cy f.of_ f.ag f.f1 f.f2 f.sq f.bd g.k g.p g.n g.wt g.msk g.lk g.fl g.cy g.of_ g.ag g.f1 g.f2 g.sq g.bd) true := by
 obtain ⟨r5, e5, i5⟩ := rmay_evl (f := f) h.ag h.bd
 have triv : ∀ (x y : List Int) (e : Int), (e = 0 ↔ Ok f) → Evl (fun k => drumlinelaw4_FrameUnlike.j0 k x e y true f.k f.p f.n f.wt f.msk f.lk f.fl f.cy f.of_ f.ag f.f1 f.f2 f.sq f.bd g.k g.p g.n g.wt g.msk g.lk g.fl g.cy g.of_ g.ag g.f1 g.f2 g.sq g.bd) true := by
  intro x y e he
  refine Evl.succ ?_
  simp only [drumlinelaw4_FrameUnlike.j0, if_true]
  refine Evl.bind alive_evl ?_
  simp only [if_true]
  refine Evl.bind e5 (Evl.now fun _ => ?_)
  have : (e == 0) = r5 := by
   rw [Bool.eq_iff_iff, i5]
   simpa using he
  rw [this]
  simp
 have main : ∀ (x y : List Int) (e e' : Int), Evl (fun k => frame_Encode.f k f.k f.p f.n f.wt f.msk f.lk f.fl f.cy f.of_ f.ag f.f1 f.f2 f.sq f.bd) (x, e) → Evl (fun k => frame_Encode.f k g.k g.p g.n g.wt g.msk g.lk g.fl g.cy g.of_ g.ag g.f1 g.f2 g.sq g.bd) (y, e') → (e = 0 ↔ Ok f) → (e' = 0 → Ok g) →
   (Ok f → x = sld (encF f)) → (Ok g → y = sld (encF g)) →
   Evl (fun k => drumlinelaw4_FrameUnlike.f k f.k f.p f.n f.wt f.msk f.lk f.fl f.cy f.of_ f.ag f.f1 f.f2 f.sq f.bd g.k g.p g.n g.wt g.msk g.lk g.fl g.cy g.of_ g.ag g.f1 g.f2 g.sq g.bd) true := by
  intro x y e e' ha hb he he' hx hy
  unfold drumlinelaw4_FrameUnlike.f
  refine Evl.bind ha (Evl.bind hb (Evl.bind alive_evl ?_))
  simp only [if_true]
  rw [small_is, small_is]
  simp only [Option.bind_some]
  by_cases hs : f.ag.length ≤ 40 ∧ f.bd.length ≤ 100
  ·simp only [decide_eq_true hs, if_true]
   by_cases hs2 : g.ag.length ≤ 40 ∧ g.bd.length ≤ 100
   ·simp only [decide_eq_true hs2, if_true]
    by_cases h0 : e = 0
    ·simp only [if_pos h0]
     by_cases h0' : e' = 0
     ·have hof := he.1 h0
      have hog := he' h0'
      have hb1 : (e' != 0) = false := by simp [h0']
      rw [hb1]
      obtain ⟨r2, e2, i2⟩ := rsame_evl (f := f) (g := g) h.ag h.bd hg.bd
      refine Evl.succ ?_
      simp only [drumlinelaw4_FrameUnlike.j0, Bool.false_eq_true, if_false]
      refine Evl.bind e2 (Evl.now fun _ => ?_)
      have : ((strOfNums x).toList == (strOfNums y).toList) = r2 := by
       rw [hx hof, hy hog, str_dec (sld_bys (enc_bysF h.bd)) (sld_bys (enc_bysF hg.bd)), Bool.eq_iff_iff, i2, decide_eq_true_eq]
       exact ⟨enc_inj hof hog, fun q => by rw [q]⟩
      rw [this]
      simp
     ·have hb1 : (e' != 0) = true := by simp [h0']
      rw [hb1]
      exact triv x y e he
    ·simp only [if_neg h0]
     exact triv x y e he
   ·simp only [decide_eq_false hs2, Bool.false_eq_true, if_false]
    exact triv x y e he
  ·simp only [decide_eq_false hs, Bool.false_eq_true, if_false]
   exact triv x y e he
 by_cases ho : Ok f
 ·by_cases ho2 : Ok g
  ·exact main _ _ _ _ ((encode_evl h.ag h.bd h.of_).1 ho) ((encode_evl hg.ag hg.bd hg.of_).1 ho2) ⟨fun _ => ho, fun _ => rfl⟩ (fun _ => ho2) (fun _ => rfl) (fun _ => rfl)
  ·exact main _ _ _ _ ((encode_evl h.ag h.bd h.of_).1 ho) ((encode_evl hg.ag hg.bd hg.of_).2 ho2) ⟨fun _ => ho, fun _ => rfl⟩ (fun q => absurd q (by decide)) (fun _ => rfl) (fun q => absurd q ho2)
 ·by_cases ho2 : Ok g
  ·exact main _ _ _ _ ((encode_evl h.ag h.bd h.of_).2 ho) ((encode_evl hg.ag hg.bd hg.of_).1 ho2) ⟨fun q => absurd q (by decide), fun q => absurd q ho⟩ (fun _ => ho2) (fun q => absurd q ho) (fun _ => rfl)
  ·exact main _ _ _ _ ((encode_evl h.ag h.bd h.of_).2 ho) ((encode_evl hg.ag hg.bd hg.of_).2 ho2) ⟨fun q => absurd q (by decide), fun q => absurd q ho⟩ (fun q => absurd q (by decide)) (fun q => absurd q ho) (fun q => absurd q ho2)
end Go.Proofs.YtaaifdclojkdmaaDoor.MFr
