/- Texts of this claim, laid together by a program (wip/e/merge2.py): PuFt, PuL0, PuLr, Open. -/
import Derived.Test.YtaaifdclojkdmaaGreatDoorZFz34
import Derived.Test.YtaaifdclojkdmaaGreatDoorZFz28
import Derived.Test.YtaaifdclojkdmaaGreatDoorZFz32
import Derived.Lib.SmallJoins
import Derived.Deep.Slices
import Derived.DataReads
import Derived.ChangeArms
import Derived.Test.YtaaifdclojkdmaaGreatDoorZFz1
set_option linter.unusedVariables false
set_option linter.unusedSimpArgs false
set_option maxRecDepth 100000
namespace Go.Proofs.YtaaifdclojkdmaaGreatDoor.MFr
open Go.RowKit Go.Proofs.YtaaifdclojkdmaaGreatDoorW.PrintWords Go.Proofs.YtaaifdclojkdmaaGreatDoorW.PrintLast Go.Proofs.YtaaifdclojkdmaaGreatDoorW.PrintMore Go.Proofs.YtaaifdclojkdmaaGreatDoor.Wire Go.Proofs.YtaaifdclojkdmaaGreatDoor.Evl Go.Proofs.YtaaifdclojkdmaaGreatDoor.PSum Go.Proofs.YtaaifdclojkdmaaGreatDoor.Sum
theorem bys_nil : Bys [] := by intro x hx; simp at hx
theorem enc_bysF {f : Fr} (hbd : Bys f.bd) : Bys (encF f) := by
 unfold encF encP
 have H := bys_append (bys_append (pl_bys 1 1) (pl_bys 1 f.p)) (pl_bys 1 f.n)
 split
 ·exact bys_append (bys_append (bys_append (pl_bys _ _) (pl_bys _ _)) (pl_bys _ _)) (pl_bys _ _)
 ·split
  ·exact bys_append (bys_append (bys_append (pl_bys _ _) (pl_bys _ _)) (pl_bys _ _)) (bys_append (bys_append (pl_bys _ _) (pl_bys _ _)) (agesB_bys _))
  ·split
   ·exact bys_append (bys_append (bys_append (pl_bys _ _) (pl_bys _ _)) (pl_bys _ _)) (bys_append (bys_append (bys_append (pl_bys _ _) (pl_bys _ _)) (pl_bys _ _)) (sg_bys _ _))
   ·split
    ·exact bys_append (bys_append (bys_append (pl_bys _ _) (pl_bys _ _)) (pl_bys _ _)) (bys_append (pl_bys _ _) (agesB_bys _))
    ·exact bys_append (bys_append (bys_append (pl_bys _ _) (pl_bys _ _)) (pl_bys _ _)) (bys_append (bys_append (bys_append (bys_append (bys_append (pl_bys _ _) (pl_bys _ _)) (pl_bys _ _)) (pl_bys _ _)) (pl_bys _ _)) hbd)
theorem isBys_iff {l : List Int} (h : Bys l) : isBys l = true := List.all_eq_true.mpr (fun x hx => decide_eq_true (h x hx))
theorem enc_len_le {f : Fr} (h : Ok f) : (encF f).length ≤ 100 := by
 have hk := h.kind
 have hsp := congrArg List.length (enc_split hk)
 simp only [List.length_append] at hsp
 have l1 := pl_len 1 f.k
 have l2 := pl_len 1 f.p
 have l3 := pl_len 1 f.n
 have ht : (tailP f).length ≤ 70 := by
  unfold tailP
  have a1 := pl_len 2 f.wt
  have a2 := pl_len 6 f.cy
  have a3 := pl_len 2 f.msk
  have a4 := pl_len 1 f.lk
  have a5 := pl_len 1 (bitI f.fl)
  have a6 := sg_len 6 f.of_
  have a7 := pl_len 1 f.f1
  have a8 := pl_len 1 f.f2
  have a9 := pl_len 4 f.sq
  have b1 := pl_len 1 (f.bd.length : Int)
  have b2 := h.bd
  split
  ·omega
  ·split
   ·rename_i k
    have := agesB_l (h.ag (.inl k))
    have := (agesOk_in (h.ag (.inl k))).2.1
    simp only [List.length_append]; omega
   ·split
    ·simp only [List.length_append]; omega
    ·split
     ·rename_i k
      have := agesB_l (h.ag (.inr k))
      have := (agesOk_in (h.ag (.inr k))).2.1
      simp only [List.length_append]; omega
     ·simp only [List.length_append]; omega
 omega
theorem encode_evl {f : Fr} (hn : f.ag.length ≤ 9223372036854775807) (hbd : Bys f.bd) (hof : -9223372036854775808 ≤ f.of_ ∧ f.of_ ≤ 9223372036854775807) :
  (Ok f → Evl (fun k => frame_Encode.f k f.k f.p f.n f.wt f.msk f.lk f.fl f.cy f.of_ f.ag f.f1 f.f2 f.sq f.bd) (sld (encF f), 0)) ∧ (¬ Ok f → Evl (fun k => frame_Encode.f k f.k f.p f.n f.wt f.msk f.lk f.fl f.cy f.of_ f.ag f.f1 f.f2 f.sq f.bd) ([], 1)) := by
 obtain ⟨r, hr, hi⟩ := may_evl hn hbd
 unfold frame_Encode.f
 constructor
 ·intro h
  rw [hi.2 h] at hr
  refine Evl.bind hr (Evl.now fun _ => ?_)
  rw [if_pos rfl, if_pos ⟨isBys_iff hbd, hof⟩]
  rfl
 ·intro h
  have hf : r = false := by cases r with | false => rfl | true => exact absurd (hi.1 rfl) h
  rw [hf] at hr
  exact Evl.bind hr (Evl.now fun _ => by rw [if_neg (by decide)])
theorem sld_isSld (l : List Int) : isSld (sld l) = true ∧ (sld l).take ((sld l).length - 4) = l := by
 have e : (sld l).take ((sld l).length - 4) = l := by rw [sld_length]; simp [sld]
 refine ⟨?_, e⟩
 unfold isSld
 rw [e, sld_length]
 simp
theorem rd_sld {l : List Int} (h : 1 ≤ l.length) : rd (sld l) 0 = rd l 0 := by
 cases l with
 | nil => simp at h
 | cons a t => simp [sld, rd]
theorem parse_back {f : Fr} (h : Ok f) : parseF (sld (encF f)) = (f, 0, 0) := by
 obtain ⟨hfb, hr, hl⟩ := fields_back h
 obtain ⟨hs, ht⟩ := sld_isSld (encF f)
 have hk := h.kind
 have hr2 := rd_sld (l := encF f) (by omega)
 unfold parseF
 rw [if_neg (by rw [sld_length]; omega), hs, if_neg (by decide), hr2, hr, if_neg (by omega), ht, hfb]
 rw [if_neg (by simp), if_neg (by simp)]
theorem decode_back {f : Fr} (h : Ok f) (hbd : Bys f.bd) : frame_Decode.f (sld (encF f)) = some (f.k, f.p, f.n, f.wt, f.msk, f.lk, f.fl, f.cy, f.of_, f.ag, f.f1, f.f2, f.sq, f.bd, 0) := by
 unfold frame_Decode.f
 have hlen := enc_len_le h
 rw [if_pos ⟨by rw [sld_length]; omega, isBys_iff (sld_bys (enc_bysF hbd))⟩, parse_back h]
end Go.Proofs.YtaaifdclojkdmaaGreatDoor.MFr
set_option linter.unusedVariables false
set_option linter.unusedSimpArgs false
set_option maxRecDepth 100000
namespace Go.Proofs.YtaaifdclojkdmaaGreatDoor.MFr
open Go.RowKit Go.Proofs.YtaaifdclojkdmaaGreatDoorW.PrintWords Go.Proofs.YtaaifdclojkdmaaGreatDoorW.PrintLast Go.Proofs.YtaaifdclojkdmaaGreatDoorW.PrintMore Go.Proofs.YtaaifdclojkdmaaGreatDoor.Wire Go.Proofs.YtaaifdclojkdmaaGreatDoor.Evl Go.Proofs.YtaaifdclojkdmaaGreatDoor.PSum Go.Proofs.YtaaifdclojkdmaaGreatDoor.Sum
def f0_ : Fr := ⟨1, 1, 2, 3, 0, 0, false, 0, 0, [], 0, 0, 0, []⟩
theorem f0_ok : Ok f0_ := { kind := by decide, own := rfl, p := by decide, n := by decide, lk := by decide, wt := by decide, msk := by decide, cy := by decide, of_ := by decide, ag := by decide, f1 := by decide, f2 := by decide, sq := by decide, bd := by decide }
theorem f0_enc : encF f0_ = [1, 1, 2, 0, 3] := by decide +kernel
theorem alive_evl : Evl (fun k => drumlinelaw4_alive.f k) true := by
 unfold drumlinelaw4_alive.f
 have h := (encode_evl (f := f0_) (by decide) bys_nil (by decide)).1 f0_ok
 refine Evl.bind h (Evl.now fun _ => ?_)
 have hd := decode_back f0_ok bys_nil
 dsimp only
 rw [hd]
 simp only [Option.bind_some]
 have hw : frame_Why.f [] = some (2, 0) := by
  unfold frame_Why.f parseF
  rfl
 rw [hw]
 simp only [Option.bind_some]
 have hl : ((sld (encF f0_)).length : Int) = 9 := by rw [sld_length, f0_enc]; rfl
 have ht : (strOfNums ((sld (encF f0_)).take 5)).toList = ([1, 1, 2, 0, 3] : List UInt8) := by
  have : (sld (encF f0_)).take 5 = [1, 1, 2, 0, 3] := by rw [f0_enc]; simp [sld]
  rw [this, str_list]
  rfl
 rw [if_pos trivial, if_pos trivial, if_pos hl, if_pos (by rw [hl]; decide), if_pos ht]
 rfl
theorem wfb {l : List Int} (h : ∀ x ∈ l, (Lit.int .u8 x).wf = true) : Bys l := by
 intro x hx
 have := h x hx
 simp [Lit.wf, IntKind.min, IntKind.max, IntKind.signed, IntKind.bits] at this
 omega
structure In (f : Fr) : Prop where
 of_ : -9223372036854775808 ≤ f.of_ ∧ f.of_ ≤ 9223372036854775807
 ag : f.ag.length ≤ 9223372036854775807
 bd : Bys f.bd
end Go.Proofs.YtaaifdclojkdmaaGreatDoor.MFr
set_option linter.unusedVariables false
set_option linter.unusedSimpArgs false
set_option maxRecDepth 100000
namespace Go.Proofs.YtaaifdclojkdmaaGreatDoor.MFr
open Go.RowKit Go.Proofs.YtaaifdclojkdmaaGreatDoorW.PrintWords Go.Proofs.YtaaifdclojkdmaaGreatDoorW.PrintLast Go.Proofs.YtaaifdclojkdmaaGreatDoorW.PrintMore Go.Proofs.YtaaifdclojkdmaaGreatDoor.Wire Go.Proofs.YtaaifdclojkdmaaGreatDoor.Evl Go.Proofs.YtaaifdclojkdmaaGreatDoor.PSum Go.Proofs.YtaaifdclojkdmaaGreatDoor.Sum
theorem agesR_len {x : List Int} : ∀ (n : Nat) (s : St) (acc : List Int), (agesR x n s acc).1.length ≤ acc.length + n
 | 0, s, acc => Nat.le_refl _
 | n + 1, s, acc => by
  unfold agesR
  split
  ·have := agesR_len (x := x) n (plainS x s 1 0 201) (acc ++ [plainN x s 1])
   simp only [List.length_append, List.length_cons, List.length_nil] at this
   omega
  ·dsimp only; omega
theorem plainN_le {x : List Int} {s : St} (hb : Bys x) : plainN x s 1 ≤ 72057594037927936 := by
 unfold plainN
 split
 ·have hc := bys_cut (a := s.at_) (n := 1) hb
  have := num_in hc
  unfold numR
  split
  ·rename_i k
   have h7 := p_le (show (cut x s.at_ 1).length ≤ 7 by omega)
   have := p_le7 7 (by decide)
   omega
  ·decide
 ·decide
theorem ages_len {x : List Int} {s : St} (hb : Bys x) : (agesF x s).1.length ≤ 9223372036854775807 := by
 have h1 := agesR_len (x := x) (plainN x s 1).toNat (plainS x s 1 1 6) []
 have h2 := plainN_le (s := s) hb
 simp only [List.length_nil] at h1
 unfold agesF
 omega
theorem fields_in {x : List Int} {s : St} {k : Int} (hb : Bys x) : (fieldsF x s k).1.ag.length ≤ 9223372036854775807 ∧ Bys (fieldsF x s k).1.bd := by
 have n1 : ([] : List Int).length ≤ 9223372036854775807 := by decide
 have n2 : Bys ([] : List Int) := bys_nil
 unfold fieldsF
 dsimp only
 split
 ·exact ⟨n1, n2⟩
 split
 ·exact ⟨ages_len hb, n2⟩
 split
 ·exact ⟨n1, n2⟩
 split
 ·exact ⟨ages_len hb, n2⟩
 ·refine ⟨n1, ?_⟩
  dsimp only
  unfold bodyF
  split
  ·exact bys_cut hb
  ·exact n2
theorem parse_in {l : List Int} (hb : Bys l) : (parseF l).1.ag.length ≤ 9223372036854775807 ∧ Bys (parseF l).1.bd := by
 have z : Fr.zero.ag.length ≤ 9223372036854775807 ∧ Bys Fr.zero.bd := ⟨by decide, bys_nil⟩
 unfold parseF
 split
 ·exact z
 split
 ·exact z
 split
 ·exact z
 split
 ·exact z
 split
 ·exact z
 ·exact fields_in (bys_take hb _)
theorem rnum_is (e : Int) : drumlinelaw4_num.f e = some e := rfl
theorem dec_is {l : List Int} (hb : Bys l) (hl : l.length ≤ 100000) : frame_Decode.f l = some ((parseF l).1.k, (parseF l).1.p, (parseF l).1.n, (parseF l).1.wt, (parseF l).1.msk, (parseF l).1.lk, (parseF l).1.fl, (parseF l).1.cy, (parseF l).1.of_, (parseF l).1.ag, (parseF l).1.f1, (parseF l).1.f2, (parseF l).1.sq, (parseF l).1.bd, (parseF l).2.1) := if_pos ⟨hl, isBys_iff hb⟩
theorem rdec_is {l : List Int} (hb : Bys l) (hl : l.length ≤ 100000) : drumlineref1_Decode.f l = some ((parseF l).1.k, (parseF l).1.p, (parseF l).1.n, (parseF l).1.wt, (parseF l).1.msk, (parseF l).1.lk, (parseF l).1.fl, (parseF l).1.cy, (parseF l).1.of_, (parseF l).1.ag, (parseF l).1.f1, (parseF l).1.f2, (parseF l).1.sq, (parseF l).1.bd, (parseF l).2.1) := if_pos ⟨hl, isBys_iff hb⟩
theorem why_is {l : List Int} (hb : Bys l) (hl : l.length ≤ 100000) : frame_Why.f l = some ((parseF l).2.1, (parseF l).2.2) := if_pos ⟨hl, isBys_iff hb⟩
theorem rwhy_is {l : List Int} (hb : Bys l) (hl : l.length ≤ 100000) : drumlineref1_Why.f l = some ((parseF l).2.1, (parseF l).2.2) := if_pos ⟨hl, isBys_iff hb⟩
theorem reads_j (l : List Int) (hb : Bys l) (c : Bool) (h : c = false → l.length ≤ 300) : Evl (fun k => drumlinelaw4_FrameReads.j0 k l c) true := by
 cases c with
 | true =>
  refine Evl.step (fun k => ?_) (Evl.bind alive_evl (Evl.now fun _ => rfl) : Evl (fun k => (drumlinelaw4_alive.f k).bind fun t => some t) true)
  simp only [drumlinelaw4_FrameReads.j0, if_true]
 | false =>
  have hl := h rfl
  obtain ⟨hag, hbd⟩ := parse_in hb
  obtain ⟨r, hr, hi⟩ := rsame_evl (f := (parseF l).1) (g := (parseF l).1) hag hbd hbd
  rw [hi.2 rfl] at hr
  refine Evl.succ ?_
  simp only [drumlinelaw4_FrameReads.j0, Bool.false_eq_true, if_false]
  rw [dec_is hb (by omega), rdec_is hb (by omega), why_is hb (by omega), rwhy_is hb (by omega)]
  simp only [Option.bind_some, rnum_is]
  refine Evl.bind hr (Evl.now fun _ => ?_)
  simp only [if_true, beq_self_eq_true]
theorem FrameReads_ (l : List Int) (hb : Bys l) : Evl (fun k => drumlinelaw4_FrameReads.f k l) true := by
 unfold drumlinelaw4_FrameReads.f
 refine Evl.bind alive_evl ?_
 simp only [if_true]
 exact reads_j l hb _ (fun h => by have := of_decide_eq_false h; omega)
end Go.Proofs.YtaaifdclojkdmaaGreatDoor.MFr
namespace Go.Proofs.YtaaifdclojkdmaaGreatDoor.Opn
open Go.Joins Go.Deep Go.ChangeShapes Go.WideShapes Go.RowKit Go.Proofs.YtaaifdclojkdmaaGreatDoorW.PrintWords
variable {H : Type} {enc : TypeId × Value → H} {P : Program} {w : World} {base : Nat} {spare : Nat → Bool} {held : Bool}
def Opens (P : Program) (t : TypeId) {α : Type} (d : Kd α) (good : α → Prop) : Prop :=
  ∀ {H : Type} (enc : TypeId × Value → H) (W : World) (fuel : Nat) (cs : List Value) (x : DataW H × List MemPlace),
    DataW.trod enc P W 0 (fun _ => true) true fuel t cs = some x → ∃ a, d.K W a cs ∧ good a
theorem opens_int {P : Program} {t : TypeId} {k : IntKind} (ht : P.underlying t = some (.int k)) : Opens P t (Kd.int k) (fun n => (Lit.int k n).wf = true) := by
  intro H enc W fuel cs x h
  obtain ⟨n, rfl, _, hw⟩ := DataW.trod_int ht h
  exact ⟨n, rfl, hw⟩
theorem listOf {α : Type} {Q : Nat → α → Prop} : ∀ n : Nat, (∀ i, i < n → ∃ y, Q i y) → ∃ l : List α, l.length = n ∧ ∀ i y, l[i]? = some y → Q i y
  | 0, _ => ⟨[], rfl, fun i y h => by simp at h⟩
  | n + 1, h => by
    obtain ⟨l, hl, hq⟩ := listOf n (fun i hi => h i (by omega))
    obtain ⟨y, hy⟩ := h n (by omega)
    refine ⟨l ++ [y], by simp [hl], fun i z hz => ?_⟩
    by_cases hi : i < n
    · rw [List.getElem?_append_left (by omega)] at hz
      exact hq i z hz
    · rw [List.getElem?_append_right (by omega)] at hz
      have hin : i = n := by
        have := (List.getElem?_eq_some_iff.1 hz).1
        simp at this; omega
      subst hin
      simp [hl] at hz
      subst hz
      exact hy
theorem opens_slice {P : Program} {t e : TypeId} {α : Type} {d : Kd α} {good : α → Prop} (ht : P.underlying t = some (.slice e)) (hc : P.cellsOf e = d.sz) (h0 : Opens P e d good) :
    Opens P t (Kd.slice e d) (fun l => (∀ x ∈ l, good x) ∧ l.length ≤ 9223372036854775807) := by
  intro H enc W fuel cs x h
  rcases Deep.open_slice ht h with ⟨rfl, _⟩ | ⟨a, len, cap, m, n, D, Pl, rfl, _, hl, hm, hm', _, hel⟩
  · exact ⟨[], ⟨none, 0, rfl, Nat.le_refl _, rfl, by simp, fun hp => absurd hp (by simp)⟩, by simp, by simp⟩
  · have hlm : len ≤ m := by rw [hm']; simpa using hl
    have hmax : len ≤ 9223372036854775807 := by unfold maxLen at hm; omega
    obtain ⟨l, hlen, hq⟩ := listOf (Q := fun i y => (∃ c : List Value, c.length = d.sz ∧ d.K W y c ∧ ∀ j u, c[j]? = some u → W.cell? (a.add (i * d.sz + j)) = some u) ∧ good y) len (fun i hi => by
      obtain ⟨cs', h1, h2⟩ := hel i (by omega)
      obtain ⟨y, hy, hg⟩ := h0 enc W n cs' _ h2
      obtain ⟨_, h3, h4⟩ := World.cells?_some h1
      refine ⟨y, ⟨cs', by rw [h3, hc], hy, fun j u hu => ?_⟩, hg⟩
      have hj := (List.getElem?_eq_some_iff.1 hu).1
      have := h4 j (by omega)
      rw [hu, hc] at this
      rw [← this, Deep.add_add])
    subst hlen
    exact ⟨l, ⟨some a, cap, rfl, hl, rfl, hmax, fun _ => ⟨a, rfl, fun j p hj => (hq j p hj).1⟩⟩, fun y hy => by
      obtain ⟨i, hi⟩ := List.mem_iff_getElem?.1 hy
      exact (hq i y hi).2, hmax⟩
end Go.Proofs.YtaaifdclojkdmaaGreatDoor.Opn
