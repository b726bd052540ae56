/- Texts of this claim, laid together by a program (wip/e/merge2.py): PuFs. -/
import Derived.Test.YtaaifdclojkdmaaGreatDoorZFz33
import Derived.Test.YtaaifdclojkdmaaGreatDoorZFz30
set_option linter.unusedVariables false
set_option linter.unusedSimpArgs false
set_option maxRecDepth 100000
namespace Go.Proofs.YtaaifdclojkdmaaGreatDoor.MFr
open Go.RowKit Go.Proofs.YtaaifdclojkdmaaGreatDoorW.PrintWords Go.Proofs.YtaaifdclojkdmaaGreatDoorW.PrintLast Go.Proofs.YtaaifdclojkdmaaGreatDoorW.PrintMore Go.Proofs.YtaaifdclojkdmaaGreatDoor.Wire Go.Proofs.YtaaifdclojkdmaaGreatDoor.Evl Go.Proofs.YtaaifdclojkdmaaGreatDoor.PSum Go.Proofs.YtaaifdclojkdmaaGreatDoor.Sum
theorem list_of_rd {a b : List Int} (hl : a.length = b.length) (h : ∀ j : Int, 0 ≤ j → j < a.length → rd a j = rd b j) : a = b := by
 apply List.ext_getElem hl
 intro i h1 h2
 have := h (i : Int) (by omega) (by omega)
 rw [rd_at h1, rd_at h2] at this
 exact this
theorem eq_loop {a b : List Int} (hl : a.length = b.length) (hn : a.length ≤ 9223372036854775807) (d : Nat) : ∀ i : Int, 0 ≤ i → i + d = a.length → (∀ j : Int, 0 ≤ j → j < i → rd a j = rd b j) → Evl (fun k => slices_Equal_int_int.l0 k a b (a.length : Int) i) (decide (a = b)) := by
 induction d with
 | zero =>
  intro i h0 h1 hp
  rw [decide_eq_true (list_of_rd hl (fun j j0 j1 => hp j j0 (by omega)))]
  refine Evl.stop (fun k => ?_)
  simp only [slices_Equal_int_int.l0]
  rw [if_neg (by omega)]
 | succ d ih =>
  intro i h0 h1 hp
  by_cases e : rd a i = rd b i
  ·refine Evl.step (fun k => ?_) (ih (i + 1) (by omega) (by omega) (fun j j0 j1 => by
    by_cases q : j = i
    ·rw [q]; exact e
    ·exact hp j j0 (by omega)))
   simp only [slices_Equal_int_int.l0]
   rw [if_pos (by omega), if_pos h0, if_pos (by omega), if_pos (by omega), if_pos e, w64 (x := i + 1) (by omega) (by omega)]
  ·rw [decide_eq_false (fun q => e (by rw [q]))]
   refine Evl.stop (fun k => ?_)
   simp only [slices_Equal_int_int.l0]
   rw [if_pos (by omega), if_pos h0, if_pos (by omega), if_pos (by omega), if_neg e]
theorem eq_evl {a b : List Int} (hn : a.length ≤ 9223372036854775807) : Evl (fun k => slices_Equal_int_int.f k a b) (decide (a = b)) := by
 unfold slices_Equal_int_int.f
 by_cases hl : a.length = b.length
 ·simp only [if_pos (show (a.length : Int) = (b.length : Int) by omega)]
  exact eq_loop hl hn a.length 0 (by omega) (by omega) (fun j j0 j1 => by omega)
 ·simp only [if_neg (show ¬ (a.length : Int) = (b.length : Int) by omega)]
  rw [decide_eq_false (fun q => hl (by rw [q]))]
  exact Evl.now fun _ => rfl
theorem si_loop {a b : List Int} (hl : a.length = b.length) (hn : a.length ≤ 9223372036854775807) (d : Nat) : ∀ i : Int, 0 ≤ i → i + d = a.length → (∀ j : Int, 0 ≤ j → j < i → rd a j = rd b j) → Evl (fun k => drumlineref1_SameInts.l0 k a b i) (decide (a = b)) := by
 induction d with
 | zero =>
  intro i h0 h1 hp
  rw [decide_eq_true (list_of_rd hl (fun j j0 j1 => hp j j0 (by omega)))]
  refine Evl.stop (fun k => ?_)
  simp only [drumlineref1_SameInts.l0]
  rw [if_neg (by omega)]
 | succ d ih =>
  intro i h0 h1 hp
  by_cases e : rd a i = rd b i
  ·refine Evl.step (fun k => ?_) (ih (i + 1) (by omega) (by omega) (fun j j0 j1 => by
    by_cases q : j = i
    ·rw [q]; exact e
    ·exact hp j j0 (by omega)))
   simp only [drumlineref1_SameInts.l0]
   rw [if_pos (by omega), if_pos h0, if_pos (by omega), if_pos e, w64 (x := i + 1) (by omega) (by omega)]
  ·rw [decide_eq_false (fun q => e (by rw [q]))]
   refine Evl.stop (fun k => ?_)
   simp only [drumlineref1_SameInts.l0]
   rw [if_pos (by omega), if_pos h0, if_pos (by omega), if_neg e]
theorem si_evl {a b : List Int} (hn : a.length ≤ 9223372036854775807) : Evl (fun k => drumlineref1_SameInts.f k a b) (decide (a = b)) := by
 unfold drumlineref1_SameInts.f
 by_cases hl : a.length = b.length
 ·simp only [if_pos (show (a.length : Int) = (b.length : Int) by omega)]
  exact si_loop hl hn a.length 0 (by omega) (by omega) (fun j j0 j1 => by omega)
 ·simp only [if_neg (show ¬ (a.length : Int) = (b.length : Int) by omega)]
  rw [decide_eq_false (fun q => hl (by rw [q]))]
  exact Evl.now fun _ => rfl
theorem str_dec {a b : List Int} (ha : Bys a) (hb : Bys b) : ((strOfNums a).toList == (strOfNums b).toList) = decide (a = b) := by
 by_cases h : a = b
 ·rw [h]; simp
 ·rw [decide_eq_false h]
  have : ¬ (strOfNums a).toList = (strOfNums b).toList := fun q => h ((str_same ha hb).1 q)
  simpa using this
theorem fr_ext {f g : Fr} : (f = g) ↔ (f.k = g.k ∧ f.p = g.p ∧ f.n = g.n ∧ f.wt = g.wt ∧ f.msk = g.msk ∧ f.lk = g.lk ∧ f.fl = g.fl ∧ f.cy = g.cy ∧ f.of_ = g.of_ ∧ f.ag = g.ag ∧ f.f1 = g.f1 ∧ f.f2 = g.f2 ∧ f.sq = g.sq ∧ f.bd = g.bd) := by
 constructor
 ·intro h; subst h; exact ⟨rfl, rfl, rfl, rfl, rfl, rfl, rfl, rfl, rfl, rfl, rfl, rfl, rfl, rfl⟩
 ·intro h; cases f; cases g; simp only [Fr.mk.injEq]; exact h
theorem same_evl {f g : Fr} (hn : f.ag.length ≤ 9223372036854775807) (hf : Bys f.bd) (hg : Bys g.bd) : ∃ r, Evl (fun k => frame_Same.f k f.k f.p f.n f.wt f.msk f.lk f.fl f.cy f.of_ f.ag f.f1 f.f2 f.sq f.bd g.k g.p g.n g.wt g.msk g.lk g.fl g.cy g.of_ g.ag g.f1 g.f2 g.sq g.bd) r ∧ (r = true ↔ f = g) := by
 unfold frame_Same.f
 by_cases e_k : f.k = g.k
 case neg => exact ⟨false, Evl.now fun _ => by rw [if_neg e_k], by simp only [Bool.false_eq_true, false_iff]; intro h; exact e_k (by rw [h])⟩
 simp only [if_pos e_k]
 by_cases e_p : f.p = g.p
 case neg => exact ⟨false, Evl.now fun _ => by rw [if_neg e_p], by simp only [Bool.false_eq_true, false_iff]; intro h; exact e_p (by rw [h])⟩
 simp only [if_pos e_p]
 by_cases e_n : f.n = g.n
 case neg => exact ⟨false, Evl.now fun _ => by rw [if_neg e_n], by simp only [Bool.false_eq_true, false_iff]; intro h; exact e_n (by rw [h])⟩
 simp only [if_pos e_n]
 by_cases e_wt : f.wt = g.wt
 case neg => exact ⟨false, Evl.now fun _ => by rw [if_neg e_wt], by simp only [Bool.false_eq_true, false_iff]; intro h; exact e_wt (by rw [h])⟩
 simp only [if_pos e_wt]
 by_cases e_msk : f.msk = g.msk
 case neg => exact ⟨false, Evl.now fun _ => by rw [if_neg e_msk], by simp only [Bool.false_eq_true, false_iff]; intro h; exact e_msk (by rw [h])⟩
 simp only [if_pos e_msk]
 by_cases e_lk : f.lk = g.lk
 case neg => exact ⟨false, Evl.now fun _ => by rw [if_neg e_lk], by simp only [Bool.false_eq_true, false_iff]; intro h; exact e_lk (by rw [h])⟩
 simp only [if_pos e_lk]
 by_cases e_fl : f.fl = g.fl
 case neg => exact ⟨false, Evl.now fun _ => by rw [if_neg (by revert e_fl; cases f.fl <;> cases g.fl <;> simp)], by simp only [Bool.false_eq_true, false_iff]; intro h; exact e_fl (by rw [h])⟩
 simp only [show (f.fl == g.fl) = true by rw [e_fl]; cases g.fl <;> rfl, if_true]
 by_cases e_cy : f.cy = g.cy
 case neg => exact ⟨false, Evl.now fun _ => by rw [if_neg e_cy], by simp only [Bool.false_eq_true, false_iff]; intro h; exact e_cy (by rw [h])⟩
 simp only [if_pos e_cy]
 by_cases e_of_ : f.of_ = g.of_
 case neg => exact ⟨false, Evl.now fun _ => by rw [if_neg e_of_], by simp only [Bool.false_eq_true, false_iff]; intro h; exact e_of_ (by rw [h])⟩
 simp only [if_pos e_of_]
 by_cases e_ag : f.ag = g.ag
 case neg => exact ⟨false, Evl.bind (eq_evl hn) (by rw [decide_eq_false e_ag]; exact Evl.now fun _ => rfl), by simp only [Bool.false_eq_true, false_iff]; intro h; exact e_ag (by rw [h])⟩
 have HB := eq_evl hn (a := f.ag) (b := g.ag)
 rw [decide_eq_true e_ag] at HB
 by_cases e_f1 : f.f1 = g.f1
 case neg => exact ⟨false, Evl.bind HB (Evl.now fun _ => by simp [e_f1]), by simp only [Bool.false_eq_true, false_iff]; intro h; exact e_f1 (by rw [h])⟩
 by_cases e_f2 : f.f2 = g.f2
 case neg => exact ⟨false, Evl.bind HB (Evl.now fun _ => by simp [e_f1, e_f2]), by simp only [Bool.false_eq_true, false_iff]; intro h; exact e_f2 (by rw [h])⟩
 by_cases e_sq : f.sq = g.sq
 case neg => exact ⟨false, Evl.bind HB (Evl.now fun _ => by simp [e_f1, e_f2, e_sq]), by simp only [Bool.false_eq_true, false_iff]; intro h; exact e_sq (by rw [h])⟩
 refine ⟨decide (f.bd = g.bd), Evl.bind HB (Evl.now fun _ => by rw [← str_dec hf hg]; simp [e_f1, e_f2, e_sq]), ?_⟩
 rw [decide_eq_true_eq, fr_ext]
 exact ⟨fun h => ⟨e_k, e_p, e_n, e_wt, e_msk, e_lk, e_fl, e_cy, e_of_, e_ag, e_f1, e_f2, e_sq, h⟩, fun h => h.2.2.2.2.2.2.2.2.2.2.2.2.2⟩
theorem rsame_evl {f g : Fr} (hn : f.ag.length ≤ 9223372036854775807) (hf : Bys f.bd) (hg : Bys g.bd) : ∃ r, Evl (fun k => drumlineref1_Same.f k f.k f.p f.n f.wt f.msk f.lk f.fl f.cy f.of_ f.ag f.f1 f.f2 f.sq f.bd g.k g.p g.n g.wt g.msk g.lk g.fl g.cy g.of_ g.ag g.f1 g.f2 g.sq g.bd) r ∧ (r = true ↔ f = g) := by
 unfold drumlineref1_Same.f
 by_cases e_k : f.k = g.k
 case neg => exact ⟨false, Evl.now fun _ => by rw [if_neg e_k], by simp only [Bool.false_eq_true, false_iff]; intro h; exact e_k (by rw [h])⟩
 simp only [if_pos e_k]
 by_cases e_p : f.p = g.p
 case neg => exact ⟨false, Evl.now fun _ => by rw [if_neg e_p], by simp only [Bool.false_eq_true, false_iff]; intro h; exact e_p (by rw [h])⟩
 simp only [if_pos e_p]
 by_cases e_n : f.n = g.n
 case neg => exact ⟨false, Evl.now fun _ => by rw [if_neg e_n], by simp only [Bool.false_eq_true, false_iff]; intro h; exact e_n (by rw [h])⟩
 simp only [if_pos e_n]
 by_cases e_wt : f.wt = g.wt
 case neg => exact ⟨false, Evl.now fun _ => by rw [if_neg e_wt], by simp only [Bool.false_eq_true, false_iff]; intro h; exact e_wt (by rw [h])⟩
 simp only [if_pos e_wt]
 by_cases e_msk : f.msk = g.msk
 case neg => exact ⟨false, Evl.now fun _ => by rw [if_neg e_msk], by simp only [Bool.false_eq_true, false_iff]; intro h; exact e_msk (by rw [h])⟩
 simp only [if_pos e_msk]
 by_cases e_lk : f.lk = g.lk
 case neg => exact ⟨false, Evl.now fun _ => by rw [if_neg e_lk], by simp only [Bool.false_eq_true, false_iff]; intro h; exact e_lk (by rw [h])⟩
 simp only [if_pos e_lk]
 by_cases e_fl : f.fl = g.fl
 case neg => exact ⟨false, Evl.now fun _ => by rw [if_pos (by revert e_fl; cases f.fl <;> cases g.fl <;> simp)], by simp only [Bool.false_eq_true, false_iff]; intro h; exact e_fl (by rw [h])⟩
 simp only [show (f.fl != g.fl) = false by rw [e_fl]; cases g.fl <;> rfl, Bool.false_eq_true, if_false]
 by_cases e_cy : f.cy = g.cy
 case neg => exact ⟨false, Evl.now fun _ => by rw [if_neg e_cy], by simp only [Bool.false_eq_true, false_iff]; intro h; exact e_cy (by rw [h])⟩
 simp only [if_pos e_cy]
 by_cases e_of_ : f.of_ = g.of_
 case neg => exact ⟨false, Evl.now fun _ => by rw [if_neg e_of_], by simp only [Bool.false_eq_true, false_iff]; intro h; exact e_of_ (by rw [h])⟩
 simp only [if_pos e_of_]
 by_cases e_ag : f.ag = g.ag
 case neg => exact ⟨false, Evl.bind (si_evl hn) (by rw [decide_eq_false e_ag]; exact Evl.now fun _ => rfl), by simp only [Bool.false_eq_true, false_iff]; intro h; exact e_ag (by rw [h])⟩
 have HB := si_evl hn (a := f.ag) (b := g.ag)
 rw [decide_eq_true e_ag] at HB
 by_cases e_f1 : f.f1 = g.f1
 case neg => exact ⟨false, Evl.bind HB (Evl.now fun _ => by simp [e_f1]), by simp only [Bool.false_eq_true, false_iff]; intro h; exact e_f1 (by rw [h])⟩
 by_cases e_f2 : f.f2 = g.f2
 case neg => exact ⟨false, Evl.bind HB (Evl.now fun _ => by simp [e_f1, e_f2]), by simp only [Bool.false_eq_true, false_iff]; intro h; exact e_f2 (by rw [h])⟩
 by_cases e_sq : f.sq = g.sq
 case neg => exact ⟨false, Evl.bind HB (Evl.now fun _ => by simp [e_f1, e_f2, e_sq]), by simp only [Bool.false_eq_true, false_iff]; intro h; exact e_sq (by rw [h])⟩
 refine ⟨decide (f.bd = g.bd), Evl.bind HB (Evl.now fun _ => by rw [← str_dec hf hg]; simp [e_f1, e_f2, e_sq]), ?_⟩
 rw [decide_eq_true_eq, fr_ext]
 exact ⟨fun h => ⟨e_k, e_p, e_n, e_wt, e_msk, e_lk, e_fl, e_cy, e_of_, e_ag, e_f1, e_f2, e_sq, h⟩, fun h => h.2.2.2.2.2.2.2.2.2.2.2.2.2⟩
set_option maxHeartbeats 2000000 in
theorem may_evl {f : Fr} (hn : f.ag.length ≤ 9223372036854775807) (hbd : Bys f.bd) : ∃ r, Evl (fun k => frame_May.f k f.k f.p f.n f.wt f.msk f.lk f.fl f.cy f.of_ f.ag f.f1 f.f2 f.sq f.bd) r ∧ (r = true ↔ Ok f) := by
 unfold frame_May.f
 by_cases e1 : f.k = 1
 ·simp only [if_pos e1]
  obtain ⟨s, hs, hi⟩ := same_evl (f := ⟨1, f.p, f.n, f.wt, 0, 0, false, 0, 0, [], 0, 0, 0, []⟩) (g := f) (by simp) (by intro x hx; simp at hx) hbd
  simp only [e1] at hs
  refine ⟨s && (idx f.p 6 && (idx f.n 12 && (idx f.lk 10 && inr f.wt 0 60000))), Evl.bind hs (Evl.now fun _ => rfl), ?_⟩
  have hsp : spareT f = ⟨1, f.p, f.n, f.wt, 0, 0, false, 0, 0, [], 0, 0, 0, []⟩ := by unfold spareT; simp only [if_pos e1]
  simp only [Bool.and_eq_true]
  constructor
  ·rintro ⟨t0, tp, tn, tl, v1⟩
   have hq := hi.1 t0
   have hz_msk : f.msk = 0 := by rw [← hq]
   have hz_lk : f.lk = 0 := by rw [← hq]
   have hz_fl : f.fl = false := by rw [← hq]
   have hz_cy : f.cy = 0 := by rw [← hq]
   have hz_of_ : f.of_ = 0 := by rw [← hq]
   have hz_ag : f.ag = [] := by rw [← hq]
   have hz_f1 : f.f1 = 0 := by rw [← hq]
   have hz_f2 : f.f2 = 0 := by rw [← hq]
   have hz_sq : f.sq = 0 := by rw [← hq]
   have hz_bd : f.bd = [] := by rw [← hq]
   simp only [inr, idx, decide_eq_true_eq] at tp tn tl v1
   have hv_wt := v1
   exact { kind := by omega, own := hsp.trans hq, p := tp, n := tn, lk := by have := hz_lk; omega, wt := by have := hv_wt; omega, msk := by have := hz_msk; omega, cy := by have := hz_cy; omega, of_ := by have := hz_of_; omega, f1 := by have := hz_f1; omega, f2 := by have := hz_f2; omega, ag := by intro q; omega, sq := by intro q; omega, bd := by rw [hz_bd]; exact Nat.zero_le _ }
  ·intro h
   have t0 : s = true := hi.2 (by rw [← hsp, h.own])
   exact ⟨t0, by have h1 := h.p; have h2 := h.n; have h3 := h.lk; have h4 := h.wt; have h5 := h.msk; have h6 := h.cy; have h7 := h.of_; have h8 := h.f1; have h9 := h.f2; have h10 := h.bd; simp only [inr, idx, decide_eq_true_eq]; omega, by have h1 := h.p; have h2 := h.n; have h3 := h.lk; have h4 := h.wt; have h5 := h.msk; have h6 := h.cy; have h7 := h.of_; have h8 := h.f1; have h9 := h.f2; have h10 := h.bd; simp only [inr, idx, decide_eq_true_eq]; omega, by have h1 := h.p; have h2 := h.n; have h3 := h.lk; have h4 := h.wt; have h5 := h.msk; have h6 := h.cy; have h7 := h.of_; have h8 := h.f1; have h9 := h.f2; have h10 := h.bd; simp only [inr, idx, decide_eq_true_eq]; omega, by have h1 := h.p; have h2 := h.n; have h3 := h.lk; have h4 := h.wt; have h5 := h.msk; have h6 := h.cy; have h7 := h.of_; have h8 := h.f1; have h9 := h.f2; have h10 := h.bd; simp only [inr, idx, decide_eq_true_eq]; omega⟩
 by_cases e2 : f.k = 2
 ·simp only [if_neg (show ¬ f.k = 1 by omega), if_pos e2]
  obtain ⟨s, hs, hi⟩ := same_evl (f := ⟨2, f.p, f.n, 0, f.msk, 0, false, f.cy, 0, f.ag, 0, 0, 0, []⟩) (g := f) hn (by intro x hx; simp at hx) hbd
  simp only [e2] at hs
  refine ⟨s && (idx f.p 6 && (idx f.n 12 && (idx f.lk 10 && (idx f.msk 4096 && (inr f.cy 0 1099511627776 && agesOk f.ag))))), Evl.bind hs (Evl.now fun _ => rfl), ?_⟩
  have hsp : spareT f = ⟨2, f.p, f.n, 0, f.msk, 0, false, f.cy, 0, f.ag, 0, 0, 0, []⟩ := by unfold spareT; simp only [if_neg (show ¬ f.k = 1 by omega), if_pos e2]
  simp only [Bool.and_eq_true]
  constructor
  ·rintro ⟨t0, tp, tn, tl, v1, v2, v3⟩
   have hq := hi.1 t0
   have hz_wt : f.wt = 0 := by rw [← hq]
   have hz_lk : f.lk = 0 := by rw [← hq]
   have hz_fl : f.fl = false := by rw [← hq]
   have hz_of_ : f.of_ = 0 := by rw [← hq]
   have hz_f1 : f.f1 = 0 := by rw [← hq]
   have hz_f2 : f.f2 = 0 := by rw [← hq]
   have hz_sq : f.sq = 0 := by rw [← hq]
   have hz_bd : f.bd = [] := by rw [← hq]
   simp only [inr, idx, decide_eq_true_eq] at tp tn tl v1 v2
   have hv_msk := v1
   have hv_cy := v2
   have hv_ag := v3
   exact { kind := by omega, own := hsp.trans hq, p := tp, n := tn, lk := by have := hz_lk; omega, wt := by have := hz_wt; omega, msk := by have := hv_msk; omega, cy := by have := hv_cy; omega, of_ := by have := hz_of_; omega, f1 := by have := hz_f1; omega, f2 := by have := hz_f2; omega, ag := by exact fun _ => hv_ag, sq := by intro q; omega, bd := by rw [hz_bd]; exact Nat.zero_le _ }
  ·intro h
   have t0 : s = true := hi.2 (by rw [← hsp, h.own])
   exact ⟨t0, by have h1 := h.p; have h2 := h.n; have h3 := h.lk; have h4 := h.wt; have h5 := h.msk; have h6 := h.cy; have h7 := h.of_; have h8 := h.f1; have h9 := h.f2; have h10 := h.bd; simp only [inr, idx, decide_eq_true_eq]; omega, by have h1 := h.p; have h2 := h.n; have h3 := h.lk; have h4 := h.wt; have h5 := h.msk; have h6 := h.cy; have h7 := h.of_; have h8 := h.f1; have h9 := h.f2; have h10 := h.bd; simp only [inr, idx, decide_eq_true_eq]; omega, by have h1 := h.p; have h2 := h.n; have h3 := h.lk; have h4 := h.wt; have h5 := h.msk; have h6 := h.cy; have h7 := h.of_; have h8 := h.f1; have h9 := h.f2; have h10 := h.bd; simp only [inr, idx, decide_eq_true_eq]; omega, by have h1 := h.p; have h2 := h.n; have h3 := h.lk; have h4 := h.wt; have h5 := h.msk; have h6 := h.cy; have h7 := h.of_; have h8 := h.f1; have h9 := h.f2; have h10 := h.bd; simp only [inr, idx, decide_eq_true_eq]; omega, by have h1 := h.p; have h2 := h.n; have h3 := h.lk; have h4 := h.wt; have h5 := h.msk; have h6 := h.cy; have h7 := h.of_; have h8 := h.f1; have h9 := h.f2; have h10 := h.bd; simp only [inr, idx, decide_eq_true_eq]; omega, h.ag (.inl e2)⟩
 by_cases e3 : f.k = 3
 ·simp only [if_neg (show ¬ f.k = 1 by omega), if_neg (show ¬ f.k = 2 by omega), if_pos e3]
  obtain ⟨s, hs, hi⟩ := same_evl (f := ⟨3, f.p, f.n, 0, 0, f.lk, f.fl, f.cy, f.of_, [], 0, 0, 0, []⟩) (g := f) (by simp) (by intro x hx; simp at hx) hbd
  simp only [e3] at hs
  refine ⟨s && (idx f.p 6 && (idx f.n 12 && (idx f.lk 10 && (inr f.cy 0 1099511627776 && inr f.of_ (-1099511627776) 1099511627776)))), Evl.bind hs (Evl.now fun _ => rfl), ?_⟩
  have hsp : spareT f = ⟨3, f.p, f.n, 0, 0, f.lk, f.fl, f.cy, f.of_, [], 0, 0, 0, []⟩ := by unfold spareT; simp only [if_neg (show ¬ f.k = 1 by omega), if_neg (show ¬ f.k = 2 by omega), if_pos e3]
  simp only [Bool.and_eq_true]
  constructor
  ·rintro ⟨t0, tp, tn, tl, v1, v2⟩
   have hq := hi.1 t0
   have hz_wt : f.wt = 0 := by rw [← hq]
   have hz_msk : f.msk = 0 := by rw [← hq]
   have hz_ag : f.ag = [] := by rw [← hq]
   have hz_f1 : f.f1 = 0 := by rw [← hq]
   have hz_f2 : f.f2 = 0 := by rw [← hq]
   have hz_sq : f.sq = 0 := by rw [← hq]
   have hz_bd : f.bd = [] := by rw [← hq]
   simp only [inr, idx, decide_eq_true_eq] at tp tn tl v1 v2
   have hv_cy := v1
   have hv_of_ := v2
   have hv_lk := tl
   exact { kind := by omega, own := hsp.trans hq, p := tp, n := tn, lk := by have := hv_lk; omega, wt := by have := hz_wt; omega, msk := by have := hz_msk; omega, cy := by have := hv_cy; omega, of_ := by have := hv_of_; omega, f1 := by have := hz_f1; omega, f2 := by have := hz_f2; omega, ag := by intro q; omega, sq := by intro q; omega, bd := by rw [hz_bd]; exact Nat.zero_le _ }
  ·intro h
   have t0 : s = true := hi.2 (by rw [← hsp, h.own])
   exact ⟨t0, by have h1 := h.p; have h2 := h.n; have h3 := h.lk; have h4 := h.wt; have h5 := h.msk; have h6 := h.cy; have h7 := h.of_; have h8 := h.f1; have h9 := h.f2; have h10 := h.bd; simp only [inr, idx, decide_eq_true_eq]; omega, by have h1 := h.p; have h2 := h.n; have h3 := h.lk; have h4 := h.wt; have h5 := h.msk; have h6 := h.cy; have h7 := h.of_; have h8 := h.f1; have h9 := h.f2; have h10 := h.bd; simp only [inr, idx, decide_eq_true_eq]; omega, by have h1 := h.p; have h2 := h.n; have h3 := h.lk; have h4 := h.wt; have h5 := h.msk; have h6 := h.cy; have h7 := h.of_; have h8 := h.f1; have h9 := h.f2; have h10 := h.bd; simp only [inr, idx, decide_eq_true_eq]; omega, by have h1 := h.p; have h2 := h.n; have h3 := h.lk; have h4 := h.wt; have h5 := h.msk; have h6 := h.cy; have h7 := h.of_; have h8 := h.f1; have h9 := h.f2; have h10 := h.bd; simp only [inr, idx, decide_eq_true_eq]; omega, by have h1 := h.p; have h2 := h.n; have h3 := h.lk; have h4 := h.wt; have h5 := h.msk; have h6 := h.cy; have h7 := h.of_; have h8 := h.f1; have h9 := h.f2; have h10 := h.bd; simp only [inr, idx, decide_eq_true_eq]; omega⟩
 by_cases e4 : f.k = 4
 ·simp only [if_neg (show ¬ f.k = 1 by omega), if_neg (show ¬ f.k = 2 by omega), if_neg (show ¬ f.k = 3 by omega), if_pos e4]
  obtain ⟨s, hs, hi⟩ := same_evl (f := ⟨4, f.p, f.n, 0, 0, f.lk, false, 0, 0, f.ag, 0, 0, 0, []⟩) (g := f) hn (by intro x hx; simp at hx) hbd
  simp only [e4] at hs
  refine ⟨s && (idx f.p 6 && (idx f.n 12 && (idx f.lk 10 && agesOk f.ag))), Evl.bind hs (Evl.now fun _ => rfl), ?_⟩
  have hsp : spareT f = ⟨4, f.p, f.n, 0, 0, f.lk, false, 0, 0, f.ag, 0, 0, 0, []⟩ := by unfold spareT; simp only [if_neg (show ¬ f.k = 1 by omega), if_neg (show ¬ f.k = 2 by omega), if_neg (show ¬ f.k = 3 by omega), if_pos e4]
  simp only [Bool.and_eq_true]
  constructor
  ·rintro ⟨t0, tp, tn, tl, v1⟩
   have hq := hi.1 t0
   have hz_wt : f.wt = 0 := by rw [← hq]
   have hz_msk : f.msk = 0 := by rw [← hq]
   have hz_fl : f.fl = false := by rw [← hq]
   have hz_cy : f.cy = 0 := by rw [← hq]
   have hz_of_ : f.of_ = 0 := by rw [← hq]
   have hz_f1 : f.f1 = 0 := by rw [← hq]
   have hz_f2 : f.f2 = 0 := by rw [← hq]
   have hz_sq : f.sq = 0 := by rw [← hq]
   have hz_bd : f.bd = [] := by rw [← hq]
   simp only [inr, idx, decide_eq_true_eq] at tp tn tl
   have hv_ag := v1
   have hv_lk := tl
   exact { kind := by omega, own := hsp.trans hq, p := tp, n := tn, lk := by have := hv_lk; omega, wt := by have := hz_wt; omega, msk := by have := hz_msk; omega, cy := by have := hz_cy; omega, of_ := by have := hz_of_; omega, f1 := by have := hz_f1; omega, f2 := by have := hz_f2; omega, ag := by exact fun _ => hv_ag, sq := by intro q; omega, bd := by rw [hz_bd]; exact Nat.zero_le _ }
  ·intro h
   have t0 : s = true := hi.2 (by rw [← hsp, h.own])
   exact ⟨t0, by have h1 := h.p; have h2 := h.n; have h3 := h.lk; have h4 := h.wt; have h5 := h.msk; have h6 := h.cy; have h7 := h.of_; have h8 := h.f1; have h9 := h.f2; have h10 := h.bd; simp only [inr, idx, decide_eq_true_eq]; omega, by have h1 := h.p; have h2 := h.n; have h3 := h.lk; have h4 := h.wt; have h5 := h.msk; have h6 := h.cy; have h7 := h.of_; have h8 := h.f1; have h9 := h.f2; have h10 := h.bd; simp only [inr, idx, decide_eq_true_eq]; omega, by have h1 := h.p; have h2 := h.n; have h3 := h.lk; have h4 := h.wt; have h5 := h.msk; have h6 := h.cy; have h7 := h.of_; have h8 := h.f1; have h9 := h.f2; have h10 := h.bd; simp only [inr, idx, decide_eq_true_eq]; omega, h.ag (.inr e4)⟩
 by_cases e5 : f.k = 5
 ·simp only [if_neg (show ¬ f.k = 1 by omega), if_neg (show ¬ f.k = 2 by omega), if_neg (show ¬ f.k = 3 by omega), if_neg (show ¬ f.k = 4 by omega), if_pos e5]
  obtain ⟨s, hs, hi⟩ := same_evl (f := ⟨5, f.p, f.n, 0, 0, f.lk, false, 0, 0, [], f.f1, f.f2, f.sq, f.bd⟩) (g := f) (by simp) hbd hbd
  simp only [e5] at hs
  refine ⟨s && (idx f.p 6 && (idx f.n 12 && (idx f.lk 10 && (idx f.f1 6 && (idx f.f2 6 && (inr f.sq 1 2147483648 && decide ((f.bd.length : Int) ≤ 24))))))), Evl.bind hs (Evl.now fun _ => rfl), ?_⟩
  have hsp : spareT f = ⟨5, f.p, f.n, 0, 0, f.lk, false, 0, 0, [], f.f1, f.f2, f.sq, f.bd⟩ := by unfold spareT; simp only [if_neg (show ¬ f.k = 1 by omega), if_neg (show ¬ f.k = 2 by omega), if_neg (show ¬ f.k = 3 by omega), if_neg (show ¬ f.k = 4 by omega), ]
  simp only [Bool.and_eq_true]
  constructor
  ·rintro ⟨t0, tp, tn, tl, v1, v2, v3, v4⟩
   have hq := hi.1 t0
   have hz_wt : f.wt = 0 := by rw [← hq]
   have hz_msk : f.msk = 0 := by rw [← hq]
   have hz_fl : f.fl = false := by rw [← hq]
   have hz_cy : f.cy = 0 := by rw [← hq]
   have hz_of_ : f.of_ = 0 := by rw [← hq]
   have hz_ag : f.ag = [] := by rw [← hq]
   simp only [inr, idx, decide_eq_true_eq] at tp tn tl v1 v2 v3 v4
   have hv_f1 := v1
   have hv_f2 := v2
   have hv_sq := v3
   have hv_bd := v4
   have hv_lk := tl
   exact { kind := by omega, own := hsp.trans hq, p := tp, n := tn, lk := by have := hv_lk; omega, wt := by have := hz_wt; omega, msk := by have := hz_msk; omega, cy := by have := hz_cy; omega, of_ := by have := hz_of_; omega, f1 := by have := hv_f1; omega, f2 := by have := hv_f2; omega, ag := by intro q; omega, sq := by exact fun _ => hv_sq, bd := by omega }
  ·intro h
   have t0 : s = true := hi.2 (by rw [← hsp, h.own])
   exact ⟨t0, by have h1 := h.p; have h2 := h.n; have h3 := h.lk; have h4 := h.wt; have h5 := h.msk; have h6 := h.cy; have h7 := h.of_; have h8 := h.f1; have h9 := h.f2; have h10 := h.bd; simp only [inr, idx, decide_eq_true_eq]; omega, by have h1 := h.p; have h2 := h.n; have h3 := h.lk; have h4 := h.wt; have h5 := h.msk; have h6 := h.cy; have h7 := h.of_; have h8 := h.f1; have h9 := h.f2; have h10 := h.bd; simp only [inr, idx, decide_eq_true_eq]; omega, by have h1 := h.p; have h2 := h.n; have h3 := h.lk; have h4 := h.wt; have h5 := h.msk; have h6 := h.cy; have h7 := h.of_; have h8 := h.f1; have h9 := h.f2; have h10 := h.bd; simp only [inr, idx, decide_eq_true_eq]; omega, by have h1 := h.p; have h2 := h.n; have h3 := h.lk; have h4 := h.wt; have h5 := h.msk; have h6 := h.cy; have h7 := h.of_; have h8 := h.f1; have h9 := h.f2; have h10 := h.bd; simp only [inr, idx, decide_eq_true_eq]; omega, by have h1 := h.p; have h2 := h.n; have h3 := h.lk; have h4 := h.wt; have h5 := h.msk; have h6 := h.cy; have h7 := h.of_; have h8 := h.f1; have h9 := h.f2; have h10 := h.bd; simp only [inr, idx, decide_eq_true_eq]; omega, by have := h.sq e5; simp only [inr, decide_eq_true_eq]; omega, by have h1 := h.p; have h2 := h.n; have h3 := h.lk; have h4 := h.wt; have h5 := h.msk; have h6 := h.cy; have h7 := h.of_; have h8 := h.f1; have h9 := h.f2; have h10 := h.bd; simp only [inr, idx, decide_eq_true_eq]; omega⟩
 simp only [if_neg e1, if_neg e2, if_neg e3, if_neg e4, if_neg e5]
 exact ⟨false, Evl.now fun _ => rfl, by simp only [Bool.false_eq_true, false_iff]; intro h; have := h.kind; omega⟩
end Go.Proofs.YtaaifdclojkdmaaGreatDoor.MFr
