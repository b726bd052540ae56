/- Texts of this claim, laid together by a program (wip/e/merge2.py): PuFe, PuLt. -/
import Derived.Test.YtaaifdclojkdmaaDoorZFr24
import Derived.Test.YtaaifdclojkdmaaDoorZFr32
import Derived.Test.YtaaifdclojkdmaaDoorZFr34
set_option linter.unusedVariables false
set_option linter.unusedSimpArgs false
set_option maxRecDepth 100000
namespace Go.Proofs.YtaaifdclojkdmaaDoor.MFr
open Go.RowKit Go.Proofs.YtaaifdclojkdmaaDoorW.PrintWords Go.Proofs.YtaaifdclojkdmaaDoorW.PrintLast Go.Proofs.YtaaifdclojkdmaaDoorW.PrintMore Go.Proofs.YtaaifdclojkdmaaDoor.Wire Go.Proofs.YtaaifdclojkdmaaDoor.Evl Go.Proofs.YtaaifdclojkdmaaDoor.PSum Go.Proofs.YtaaifdclojkdmaaDoor.Sum
theorem put_evl_ {l : List Int} {n w : Int} (hl : l.length ≤ 100000) : Evl (fun k => drumlineref1_put.f k l n w) (l ++ pl w n) := by
 unfold drumlineref1_put.f
 refine Evl.bind (rplain_evl n w) (Evl.now fun _ => ?_)
 have := pl_len w n
 unfold pl at this
 rw [if_pos (by omega)]
 rfl
theorem pa_loop {l : List Int} (hn : l.length ≤ 1000) (d : Nat) : ∀ (i : Int) (acc : List Int), 0 ≤ i → i + d = l.length → acc.length ≤ 10000 + 7 * i → Evl (fun k => drumlineref1_putAges.l0 k acc l i) (acc ++ (l.drop i.toNat).flatMap (pl 1)) := by
 induction d with
 | zero =>
  intro i acc h0 h1 ha
  refine Evl.stop (fun k => ?_)
  simp only [drumlineref1_putAges.l0]
  rw [if_neg (by omega), List.drop_eq_nil_of_le (by omega)]
  simp
 | succ d ih =>
  intro i acc h0 h1 ha
  have hi : i.toNat < l.length := by omega
  have hp := pl_len 1 (rd l i)
  have e : l.drop i.toNat = rd l i :: l.drop (i + 1).toNat := by
   rw [List.drop_eq_getElem_cons hi, show (i + 1).toNat = i.toNat + 1 by omega]
   have := rd_at hi
   rw [show ((i.toNat : Nat) : Int) = i by omega] at this
   rw [this]
  refine Evl.succ ?_
  simp only [drumlineref1_putAges.l0, if_pos (show i < (l.length : Int) by omega), if_pos h0]
  rw [w64 (x := i + 1) (by omega) (by omega)]
  refine Evl.bind (put_evl_ (by omega)) ?_
  have := ih (i + 1) (acc ++ pl 1 (rd l i)) (by omega) (by omega) (by rw [List.length_append]; omega)
  rw [e, List.flatMap_cons, ← List.append_assoc]
  exact this
theorem putAges_evl {acc l : List Int} (hl : l.length ≤ 1000) (ha : acc.length ≤ 9000) : Evl (fun k => drumlineref1_putAges.f k acc l) (acc ++ agesB l) := by
 unfold drumlineref1_putAges.f
 refine Evl.bind (put_evl_ (by omega)) ?_
 have hp := pl_len 1 (l.length : Int)
 have := pa_loop hl l.length 0 (acc ++ pl 1 l.length) (by omega) (by omega) (by rw [List.length_append]; omega)
 unfold agesB
 rw [← List.append_assoc]
 exact this
theorem rencode_evl {f : Fr} (hn : f.ag.length ≤ 9223372036854775807) (hbd : Bys f.bd) :
  (Ok f → Evl (fun k => drumlineref1_Encode.f k f.k f.p f.n f.wt f.msk f.lk f.fl f.cy f.of_ f.ag f.f1 f.f2 f.sq f.bd) (sld (encF f), 0)) ∧ (¬ Ok f → Evl (fun k => drumlineref1_Encode.f k f.k f.p f.n f.wt f.msk f.lk f.fl f.cy f.of_ f.ag f.f1 f.f2 f.sq f.bd) ([], 1)) := by
 obtain ⟨r, hr, hi⟩ := rmay_evl hn hbd
 unfold drumlineref1_Encode.f
 constructor
 ·intro h
  rw [hi.2 h] at hr
  have hk := h.kind
  have hb := enc_bysF hbd
  have hlen := enc_len_le h
  refine Evl.bind hr ?_
  simp only [if_true]
  have l1 := pl_len 1 f.k
  have l2 := pl_len 1 f.p
  have l3 := pl_len 1 f.n
  refine Evl.bind (put_evl_ (by simp)) (Evl.bind (put_evl_ (by simp only [List.length_append, List.length_nil]; omega)) (Evl.bind (put_evl_ (by simp only [List.length_append, List.length_nil]; omega)) ?_))
  have fin : ∀ {t : List Int}, t = encF f → Evl (fun k => (drumlineref1_Seal.f k t).bind fun z => some (z, (0 : Int))) (sld (encF f), 0) := by
   intro t ht
   rw [ht]
   exact Evl.bind (rseal_evl hb (by omega)) (Evl.now fun _ => rfl)
  have a4 := pl_len 1 f.lk
  have b2 := h.bd
  rcases (show f.k = 1 ∨ f.k = 2 ∨ f.k = 3 ∨ f.k = 4 ∨ f.k = 5 by omega) with k | k | k | k | k
  ·simp only [if_pos k]
   refine Evl.bind (put_evl_ (by simp only [List.length_append, List.length_nil]; omega)) (fin ?_)
   unfold encF encP
   rw [if_pos k, k]
   simp only [List.nil_append, List.append_assoc]
  ·simp only [if_neg (show ¬ f.k = 1 by omega), if_pos k]
   have a2 := pl_len 6 f.cy
   have a3 := pl_len 2 f.msk
   have g6 := (agesOk_in (h.ag (.inl k))).2.1
   refine Evl.bind (put_evl_ (by simp only [List.length_append, List.length_nil]; omega)) (Evl.bind (put_evl_ (by simp only [List.length_append, List.length_nil]; omega)) (Evl.bind (putAges_evl (by omega) (by simp only [List.length_append, List.length_nil]; omega)) (fin ?_)))
   unfold encF encP
   rw [if_neg (by omega), if_pos k, k]
   simp only [List.nil_append, List.append_assoc]
  ·simp only [if_neg (show ¬ f.k = 1 by omega), if_neg (show ¬ f.k = 2 by omega), if_pos k]
   have a2 := pl_len 6 f.cy
   have a5 := pl_len 1 (bitI f.fl)
   have a6 := sg_len 6 f.of_
   have hfl : drumlineref1_flag.f f.fl = some (bitI f.fl) := by unfold drumlineref1_flag.f bitI; cases f.fl <;> rfl
   refine Evl.bind (put_evl_ (by simp only [List.length_append, List.length_nil]; omega)) ?_
   rw [hfl]
   simp only [Option.bind_some]
   refine Evl.bind (put_evl_ (by simp only [List.length_append, List.length_nil]; omega)) (Evl.bind (put_evl_ (by simp only [List.length_append, List.length_nil]; omega)) (Evl.bind (rsigned_evl f.of_ 6) ?_))
   have hc : ([] ++ pl 1 f.k ++ pl 1 f.p ++ pl 1 f.n ++ pl 1 f.lk ++ pl 1 (bitI f.fl) ++ pl 6 f.cy).length + (signedR f.of_ 6).fst.length < 140737488355328 := by have := a6; unfold sg at this; simp only [List.length_append, List.length_nil]; omega
   simp only [if_pos hc]
   refine fin ?_
   unfold encF encP
   rw [if_neg (by omega), if_neg (by omega), if_pos k, k]
   simp only [List.nil_append, List.append_assoc, sg]
  ·simp only [if_neg (show ¬ f.k = 1 by omega), if_neg (show ¬ f.k = 2 by omega), if_neg (show ¬ f.k = 3 by omega), if_pos k]
   have g6 := (agesOk_in (h.ag (.inr k))).2.1
   refine Evl.bind (put_evl_ (by simp only [List.length_append, List.length_nil]; omega)) (Evl.bind (putAges_evl (by omega) (by simp only [List.length_append, List.length_nil]; omega)) (fin ?_))
   unfold encF encP
   rw [if_neg (by omega), if_neg (by omega), if_neg (by omega), if_pos k, k]
   simp only [List.nil_append, List.append_assoc]
  ·simp only [if_neg (show ¬ f.k = 1 by omega), if_neg (show ¬ f.k = 2 by omega), if_neg (show ¬ f.k = 3 by omega), if_neg (show ¬ f.k = 4 by omega), if_pos k]
   have a7 := pl_len 1 f.f1
   have a8 := pl_len 1 f.f2
   have a9 := pl_len 4 f.sq
   have b1 := pl_len 1 (f.bd.length : Int)
   refine Evl.bind (put_evl_ (by simp only [List.length_append, List.length_nil]; omega)) (Evl.bind (put_evl_ (by simp only [List.length_append, List.length_nil]; omega)) (Evl.bind (put_evl_ (by simp only [List.length_append, List.length_nil]; omega)) (Evl.bind (put_evl_ (by simp only [List.length_append, List.length_nil]; omega)) (Evl.bind (put_evl_ (by simp only [List.length_append, List.length_nil]; omega)) ?_))))
   have hc : ([] ++ pl 1 f.k ++ pl 1 f.p ++ pl 1 f.n ++ pl 1 f.lk ++ pl 1 f.f1 ++ pl 1 f.f2 ++ pl 4 f.sq ++ pl 1 (f.bd.length : Int)).length + f.bd.length < 140737488355328 := by simp only [List.length_append, List.length_nil]; omega
   simp only [if_pos hc]
   refine fin ?_
   unfold encF encP
   rw [if_neg (by omega), if_neg (by omega), if_neg (by omega), if_neg (by omega), k]
   simp only [List.nil_append, List.append_assoc]
 ·intro h
  have hf : r = false := by cases r with | false => rfl | true => exact absurd (hi.1 rfl) h
  rw [hf] at hr
  exact Evl.bind hr (Evl.now fun _ => by rw [if_neg (by decide)])
end Go.Proofs.YtaaifdclojkdmaaDoor.MFr
set_option linter.unusedVariables false
set_option linter.unusedSimpArgs false
set_option maxRecDepth 100000
namespace Go.Proofs.YtaaifdclojkdmaaDoor.MFr
open Go.RowKit Go.Proofs.YtaaifdclojkdmaaDoorW.PrintWords Go.Proofs.YtaaifdclojkdmaaDoorW.PrintLast Go.Proofs.YtaaifdclojkdmaaDoorW.PrintMore Go.Proofs.YtaaifdclojkdmaaDoor.Wire Go.Proofs.YtaaifdclojkdmaaDoor.Evl Go.Proofs.YtaaifdclojkdmaaDoor.PSum Go.Proofs.YtaaifdclojkdmaaDoor.Sum
theorem num_is (e : Int) : drumlinelaw4_num.f e = some e := rfl
theorem tells_j (f g : Fr) (h : In f) (hg : In g) : Evl (fun k => drumlinelaw4_FrameTells.j0 k false f.k f.p f.n f.wt f.msk f.lk f.fl f.cy f.of_ f.ag f.f1 f.f2 f.sq f.bd g.k g.p g.n g.wt g.msk g.lk g.fl g.cy g.of_ g.ag g.f1 g.f2 g.sq g.bd) true := by
 obtain ⟨r1, e1, i1⟩ := same_evl (f := f) (g := g) h.ag h.bd hg.bd
 obtain ⟨r2, e2, i2⟩ := rsame_evl (f := f) (g := g) h.ag h.bd hg.bd
 obtain ⟨r3, e3, i3⟩ := same_evl (f := f) (g := f) h.ag h.bd h.bd
 obtain ⟨r4, e4, i4⟩ := may_evl (f := f) h.ag h.bd
 obtain ⟨r5, e5, i5⟩ := rmay_evl (f := f) h.ag h.bd
 rw [i3.2 rfl] at e3
 have h12 : r1 = r2 := Bool.eq_iff_iff.2 (i1.trans i2.symm)
 have h45 : r4 = r5 := Bool.eq_iff_iff.2 (i4.trans i5.symm)
 subst h12
 subst h45
 have fin : ∀ (b : List Int) (e : Int), Evl (fun k => frame_Encode.f k f.k f.p f.n f.wt f.msk f.lk f.fl f.cy f.of_ f.ag f.f1 f.f2 f.sq f.bd) (b, e) → Evl (fun k => drumlineref1_Encode.f k f.k f.p f.n f.wt f.msk f.lk f.fl f.cy f.of_ f.ag f.f1 f.f2 f.sq f.bd) (b, e) →
   Evl (fun k => drumlinelaw4_FrameTells.j0 k false f.k f.p f.n f.wt f.msk f.lk f.fl f.cy f.of_ f.ag f.f1 f.f2 f.sq f.bd g.k g.p g.n g.wt g.msk g.lk g.fl g.cy g.of_ g.ag g.f1 g.f2 g.sq g.bd) true := by
  intro b e ha hb
  refine Evl.succ ?_
  simp only [drumlinelaw4_FrameTells.j0, Bool.false_eq_true, if_false]
  refine Evl.bind ha (Evl.bind hb (Evl.bind e4 (Evl.bind e5 ?_)))
  simp only [beq_self_eq_true, if_true, num_is, Option.bind_some]
  refine Evl.bind e1 (Evl.bind e2 ?_)
  simp only [beq_self_eq_true, if_true]
  exact Evl.bind e3 (Evl.now fun _ => rfl)
 by_cases ho : Ok f
 ·exact fin _ _ ((encode_evl h.ag h.bd h.of_).1 ho) ((rencode_evl h.ag h.bd).1 ho)
 ·exact fin _ _ ((encode_evl h.ag h.bd h.of_).2 ho) ((rencode_evl h.ag h.bd).2 ho)
theorem FrameTells_ (f g : Fr) (h : In f) (hg : In g) : Evl (fun k => drumlinelaw4_FrameTells.f k f.k f.p f.n f.wt f.msk f.lk f.fl f.cy f.of_ f.ag f.f1 f.f2 f.sq f.bd g.k g.p g.n g.wt g.msk g.lk g.fl g.cy g.of_ g.ag g.f1 g.f2 g.sq g.bd) true := by
 have triv : Evl (fun k => drumlinelaw4_FrameTells.j0 k true f.k f.p f.n f.wt f.msk f.lk f.fl f.cy f.of_ f.ag f.f1 f.f2 f.sq f.bd g.k g.p g.n g.wt g.msk g.lk g.fl g.cy g.of_ g.ag g.f1 g.f2 g.sq g.bd) true := by
  refine Evl.step (fun k => ?_) (Evl.bind alive_evl (Evl.now fun _ => rfl) : Evl (fun k => (drumlinelaw4_alive.f k).bind fun t => some t) true)
  simp only [drumlinelaw4_FrameTells.j0, if_true]
 unfold drumlinelaw4_FrameTells.f
 refine Evl.bind alive_evl ?_
 simp only [if_true]
 rw [small_is, small_is]
 simp only [Option.bind_some]
 by_cases hs : f.ag.length ≤ 40 ∧ f.bd.length ≤ 100
 ·simp only [decide_eq_true hs, if_true]
  by_cases hs2 : g.ag.length ≤ 40 ∧ g.bd.length ≤ 100
  ·simp only [decide_eq_true hs2, Bool.not_true]
   exact tells_j f g h hg
  ·simp only [decide_eq_false hs2, Bool.not_false]
   exact triv
 ·simp only [decide_eq_false hs, Bool.false_eq_true, if_false]
  exact triv
end Go.Proofs.YtaaifdclojkdmaaDoor.MFr
