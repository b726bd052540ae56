/- Texts of this claim, laid together by a program (wip/e/merge2.py): PuFt, PuL0, Open. -/
import Derived.Test.YtaaifdclojkdmaaDoorZFr23
import Derived.Test.YtaaifdclojkdmaaDoorZFr21
import Derived.Test.YtaaifdclojkdmaaDoorZFr22
import Derived.Lib.SmallJoins
import Derived.Deep.Slices
import Derived.DataReads
import Derived.ChangeArms
import Derived.Test.YtaaifdclojkdmaaDoorZFr1
set_option linter.unusedVariables false
set_option linter.unusedSimpArgs false
set_option maxRecDepth 100000
namespace Go.Proofs.YtaaifdclojkdmaaDoor.MFr
open Go.RowKit Go.Proofs.YtaaifdclojkdmaaDoorW.PrintWords Go.Proofs.YtaaifdclojkdmaaDoorW.PrintLast Go.Proofs.YtaaifdclojkdmaaDoorW.PrintMore Go.Proofs.YtaaifdclojkdmaaDoor.Wire Go.Proofs.YtaaifdclojkdmaaDoor.Evl Go.Proofs.YtaaifdclojkdmaaDoor.PSum Go.Proofs.YtaaifdclojkdmaaDoor.Sum
theorem bys_nil : Bys [] := by intro x hx; simp at hx
theorem enc_bysF {f : Fr} (hbd : Bys f.bd) : Bys (encF f) := by
 unfold encF encP
 have H := bys_append (bys_append (pl_bys 1 1) (pl_bys 1 f.p)) (pl_bys 1 f.n)
 split
 ·exact bys_append (bys_append (bys_append (pl_bys _ _) (pl_bys _ _)) (pl_bys _ _)) (pl_bys _ _)
 ·split
  ·exact bys_append (bys_append (bys_append (pl_bys _ _) (pl_bys _ _)) (pl_bys _ _)) (bys_append (bys_append (pl_bys _ _) (pl_bys _ _)) (agesB_bys _))
  ·split
   ·exact bys_append (bys_append (bys_append (pl_bys _ _) (pl_bys _ _)) (pl_bys _ _)) (bys_append (bys_append (bys_append (pl_bys _ _) (pl_bys _ _)) (pl_bys _ _)) (sg_bys _ _))
   ·split
    ·exact bys_append (bys_append (bys_append (pl_bys _ _) (pl_bys _ _)) (pl_bys _ _)) (bys_append (pl_bys _ _) (agesB_bys _))
    ·exact bys_append (bys_append (bys_append (pl_bys _ _) (pl_bys _ _)) (pl_bys _ _)) (bys_append (bys_append (bys_append (bys_append (bys_append (pl_bys _ _) (pl_bys _ _)) (pl_bys _ _)) (pl_bys _ _)) (pl_bys _ _)) hbd)
theorem isBys_iff {l : List Int} (h : Bys l) : isBys l = true := List.all_eq_true.mpr (fun x hx => decide_eq_true (h x hx))
theorem enc_len_le {f : Fr} (h : Ok f) : (encF f).length ≤ 100 := by
 have hk := h.kind
 have hsp := congrArg List.length (enc_split hk)
 simp only [List.length_append] at hsp
 have l1 := pl_len 1 f.k
 have l2 := pl_len 1 f.p
 have l3 := pl_len 1 f.n
 have ht : (tailP f).length ≤ 70 := by
  unfold tailP
  have a1 := pl_len 2 f.wt
  have a2 := pl_len 6 f.cy
  have a3 := pl_len 2 f.msk
  have a4 := pl_len 1 f.lk
  have a5 := pl_len 1 (bitI f.fl)
  have a6 := sg_len 6 f.of_
  have a7 := pl_len 1 f.f1
  have a8 := pl_len 1 f.f2
  have a9 := pl_len 4 f.sq
  have b1 := pl_len 1 (f.bd.length : Int)
  have b2 := h.bd
  split
  ·omega
  ·split
   ·rename_i k
    have := agesB_l (h.ag (.inl k))
    have := (agesOk_in (h.ag (.inl k))).2.1
    simp only [List.length_append]; omega
   ·split
    ·simp only [List.length_append]; omega
    ·split
     ·rename_i k
      have := agesB_l (h.ag (.inr k))
      have := (agesOk_in (h.ag (.inr k))).2.1
      simp only [List.length_append]; omega
     ·simp only [List.length_append]; omega
 omega
theorem encode_evl {f : Fr} (hn : f.ag.length ≤ 9223372036854775807) (hbd : Bys f.bd) (hof : -9223372036854775808 ≤ f.of_ ∧ f.of_ ≤ 9223372036854775807) :
  (Ok f → Evl (fun k => frame_Encode.f k f.k f.p f.n f.wt f.msk f.lk f.fl f.cy f.of_ f.ag f.f1 f.f2 f.sq f.bd) (sld (encF f), 0)) ∧ (¬ Ok f → Evl (fun k => frame_Encode.f k f.k f.p f.n f.wt f.msk f.lk f.fl f.cy f.of_ f.ag f.f1 f.f2 f.sq f.bd) ([], 1)) := by
 obtain ⟨r, hr, hi⟩ := may_evl hn hbd
 unfold frame_Encode.f
 constructor
 ·intro h
  rw [hi.2 h] at hr
  refine Evl.bind hr (Evl.now fun _ => ?_)
  rw [if_pos rfl, if_pos ⟨isBys_iff hbd, hof⟩]
  rfl
 ·intro h
  have hf : r = false := by cases r with | false => rfl | true => exact absurd (hi.1 rfl) h
  rw [hf] at hr
  exact Evl.bind hr (Evl.now fun _ => by rw [if_neg (by decide)])
theorem sld_isSld (l : List Int) : isSld (sld l) = true ∧ (sld l).take ((sld l).length - 4) = l := by
 have e : (sld l).take ((sld l).length - 4) = l := by rw [sld_length]; simp [sld]
 refine ⟨?_, e⟩
 unfold isSld
 rw [e, sld_length]
 simp
theorem rd_sld {l : List Int} (h : 1 ≤ l.length) : rd (sld l) 0 = rd l 0 := by
 cases l with
 | nil => simp at h
 | cons a t => simp [sld, rd]
theorem parse_back {f : Fr} (h : Ok f) : parseF (sld (encF f)) = (f, 0, 0) := by
 obtain ⟨hfb, hr, hl⟩ := fields_back h
 obtain ⟨hs, ht⟩ := sld_isSld (encF f)
 have hk := h.kind
 have hr2 := rd_sld (l := encF f) (by omega)
 unfold parseF
 rw [if_neg (by rw [sld_length]; omega), hs, if_neg (by decide), hr2, hr, if_neg (by omega), ht, hfb]
 rw [if_neg (by simp), if_neg (by simp)]
theorem decode_back {f : Fr} (h : Ok f) (hbd : Bys f.bd) : frame_Decode.f (sld (encF f)) = some (f.k, f.p, f.n, f.wt, f.msk, f.lk, f.fl, f.cy, f.of_, f.ag, f.f1, f.f2, f.sq, f.bd, 0) := by
 unfold frame_Decode.f
 have hlen := enc_len_le h
 rw [if_pos ⟨by rw [sld_length]; omega, isBys_iff (sld_bys (enc_bysF hbd))⟩, parse_back h]
end Go.Proofs.YtaaifdclojkdmaaDoor.MFr
set_option linter.unusedVariables false
set_option linter.unusedSimpArgs false
set_option maxRecDepth 100000
namespace Go.Proofs.YtaaifdclojkdmaaDoor.MFr
open Go.RowKit Go.Proofs.YtaaifdclojkdmaaDoorW.PrintWords Go.Proofs.YtaaifdclojkdmaaDoorW.PrintLast Go.Proofs.YtaaifdclojkdmaaDoorW.PrintMore Go.Proofs.YtaaifdclojkdmaaDoor.Wire Go.Proofs.YtaaifdclojkdmaaDoor.Evl Go.Proofs.YtaaifdclojkdmaaDoor.PSum Go.Proofs.YtaaifdclojkdmaaDoor.Sum
def f0_ : Fr := ⟨1, 1, 2, 3, 0, 0, false, 0, 0, [], 0, 0, 0, []⟩
theorem f0_ok : Ok f0_ := { kind := by decide, own := rfl, p := by decide, n := by decide, lk := by decide, wt := by decide, msk := by decide, cy := by decide, of_ := by decide, ag := by decide, f1 := by decide, f2 := by decide, sq := by decide, bd := by decide }
theorem f0_enc : encF f0_ = [1, 1, 2, 0, 3] := by decide +kernel
theorem alive_evl : Evl (fun k => drumlinelaw4_alive.f k) true := by
 unfold drumlinelaw4_alive.f
 have h := (encode_evl (f := f0_) (by decide) bys_nil (by decide)).1 f0_ok
 refine Evl.bind h (Evl.now fun _ => ?_)
 have hd := decode_back f0_ok bys_nil
 dsimp only
 rw [hd]
 simp only [Option.bind_some]
 have hw : frame_Why.f [] = some (2, 0) := by
  unfold frame_Why.f parseF
  rfl
 rw [hw]
 simp only [Option.bind_some]
 have hl : ((sld (encF f0_)).length : Int) = 9 := by rw [sld_length, f0_enc]; rfl
 have ht : (strOfNums ((sld (encF f0_)).take 5)).toList = ([1, 1, 2, 0, 3] : List UInt8) := by
  have : (sld (encF f0_)).take 5 = [1, 1, 2, 0, 3] := by rw [f0_enc]; simp [sld]
  rw [this, str_list]
  rfl
 rw [if_pos trivial, if_pos trivial, if_pos hl, if_pos (by rw [hl]; decide), if_pos ht]
 rfl
theorem wfi {a : Int} (h : (Lit.int .i64 a).wf = true) : -9223372036854775808 ≤ a ∧ a ≤ 9223372036854775807 := by
 simp [Lit.wf, IntKind.min, IntKind.max, IntKind.signed, IntKind.bits] at h
 omega
theorem wfu8 {a : Int} (h : (Lit.int .u8 a).wf = true) : 0 ≤ a ∧ a ≤ 255 := by
 simp [Lit.wf, IntKind.min, IntKind.max, IntKind.signed, IntKind.bits] at h
 omega
theorem wfu16 {a : Int} (h : (Lit.int .u16 a).wf = true) : 0 ≤ a ∧ a ≤ 65535 := by
 simp [Lit.wf, IntKind.min, IntKind.max, IntKind.signed, IntKind.bits] at h
 omega
theorem wfb {l : List Int} (h : ∀ x ∈ l, (Lit.int .u8 x).wf = true) : Bys l := by
 intro x hx
 have := h x hx
 simp [Lit.wf, IntKind.min, IntKind.max, IntKind.signed, IntKind.bits] at this
 omega
theorem small_is (f : Fr) : drumlinelaw4_small.f f.k f.p f.n f.wt f.msk f.lk f.fl f.cy f.of_ f.ag f.f1 f.f2 f.sq f.bd = some (decide (f.ag.length ≤ 40 ∧ f.bd.length ≤ 100)) := by
 unfold drumlinelaw4_small.f
 by_cases h : (f.ag.length : Int) ≤ 40
 ·rw [if_pos h]
  by_cases h2 : f.bd.length ≤ 100
  ·rw [decide_eq_true (show (f.bd.length : Int) ≤ 100 by omega), decide_eq_true (show f.ag.length ≤ 40 ∧ f.bd.length ≤ 100 from ⟨by omega, h2⟩)]
  ·rw [decide_eq_false (show ¬ (f.bd.length : Int) ≤ 100 by omega), decide_eq_false (fun q => h2 q.2)]
 ·rw [if_neg h, decide_eq_false (fun q => h (by have := q.1; omega))]
structure In (f : Fr) : Prop where
 of_ : -9223372036854775808 ≤ f.of_ ∧ f.of_ ≤ 9223372036854775807
 ag : f.ag.length ≤ 9223372036854775807
 bd : Bys f.bd
end Go.Proofs.YtaaifdclojkdmaaDoor.MFr
namespace Go.Proofs.YtaaifdclojkdmaaDoor.Opn
open Go.Joins Go.Deep Go.ChangeShapes Go.WideShapes Go.RowKit Go.Proofs.YtaaifdclojkdmaaDoorW.PrintWords
variable {H : Type} {enc : TypeId × Value → H} {P : Program} {w : World} {base : Nat} {spare : Nat → Bool} {held : Bool}
theorem array14 {α : Type} {cs : Array α} (h : cs.size = 14) : ∃ c0 c1 c2 c3 c4 c5 c6 c7 c8 c9 c10 c11 c12 c13, cs = #[c0, c1, c2, c3, c4, c5, c6, c7, c8, c9, c10, c11, c12, c13] := by
  obtain ⟨l⟩ := cs
  match l, h with
  | [c0, c1, c2, c3, c4, c5, c6, c7, c8, c9, c10, c11, c12, c13], _ => exact ⟨c0, c1, c2, c3, c4, c5, c6, c7, c8, c9, c10, c11, c12, c13, rfl⟩
theorem trod_struct14 {t : TypeId} {f0 f1 f2 f3 f4 f5 f6 f7 f8 f9 f10 f11 f12 f13 : Field} {fuel : Nat} {cs : List Value} {x : DataW H × List MemPlace} (ht : P.underlying t = some (.struct #[f0, f1, f2, f3, f4, f5, f6, f7, f8, f9, f10, f11, f12, f13])) (h : DataW.trod enc P w base spare held fuel t cs = some x) :
    ∃ y0 y1 y2 y3 y4 y5 y6 y7 y8 y9 y10 y11 y12 y13 n, x = (.agg [y0.1, y1.1, y2.1, y3.1, y4.1, y5.1, y6.1, y7.1, y8.1, y9.1, y10.1, y11.1, y12.1, y13.1], y0.2 ++ (y1.2 ++ (y2.2 ++ (y3.2 ++ (y4.2 ++ (y5.2 ++ (y6.2 ++ (y7.2 ++ (y8.2 ++ (y9.2 ++ (y10.2 ++ (y11.2 ++ (y12.2 ++ (y13.2)))))))))))))) ∧ cs.length = P.cellsOf t ∧ DataW.trod enc P w base spare held n f0.type ((cs.drop f0.offset).take (P.cellsOf f0.type)) = some y0 ∧ DataW.trod enc P w base spare held n f1.type ((cs.drop f1.offset).take (P.cellsOf f1.type)) = some y1 ∧ DataW.trod enc P w base spare held n f2.type ((cs.drop f2.offset).take (P.cellsOf f2.type)) = some y2 ∧ DataW.trod enc P w base spare held n f3.type ((cs.drop f3.offset).take (P.cellsOf f3.type)) = some y3 ∧ DataW.trod enc P w base spare held n f4.type ((cs.drop f4.offset).take (P.cellsOf f4.type)) = some y4 ∧ DataW.trod enc P w base spare held n f5.type ((cs.drop f5.offset).take (P.cellsOf f5.type)) = some y5 ∧ DataW.trod enc P w base spare held n f6.type ((cs.drop f6.offset).take (P.cellsOf f6.type)) = some y6 ∧ DataW.trod enc P w base spare held n f7.type ((cs.drop f7.offset).take (P.cellsOf f7.type)) = some y7 ∧ DataW.trod enc P w base spare held n f8.type ((cs.drop f8.offset).take (P.cellsOf f8.type)) = some y8 ∧ DataW.trod enc P w base spare held n f9.type ((cs.drop f9.offset).take (P.cellsOf f9.type)) = some y9 ∧ DataW.trod enc P w base spare held n f10.type ((cs.drop f10.offset).take (P.cellsOf f10.type)) = some y10 ∧ DataW.trod enc P w base spare held n f11.type ((cs.drop f11.offset).take (P.cellsOf f11.type)) = some y11 ∧ DataW.trod enc P w base spare held n f12.type ((cs.drop f12.offset).take (P.cellsOf f12.type)) = some y12 ∧ DataW.trod enc P w base spare held n f13.type ((cs.drop f13.offset).take (P.cellsOf f13.type)) = some y13 := by
  obtain ⟨xs, n, _, rfl, hl, hlen, hf⟩ := DataW.trod_struct ht h
  match xs, hlen with
  | [y0, y1, y2, y3, y4, y5, y6, y7, y8, y9, y10, y11, y12, y13], _ => exact ⟨y0, y1, y2, y3, y4, y5, y6, y7, y8, y9, y10, y11, y12, y13, n, by simp, hl, by simpa using hf 0 f0 rfl, by simpa using hf 1 f1 rfl, by simpa using hf 2 f2 rfl, by simpa using hf 3 f3 rfl, by simpa using hf 4 f4 rfl, by simpa using hf 5 f5 rfl, by simpa using hf 6 f6 rfl, by simpa using hf 7 f7 rfl, by simpa using hf 8 f8 rfl, by simpa using hf 9 f9 rfl, by simpa using hf 10 f10 rfl, by simpa using hf 11 f11 rfl, by simpa using hf 12 f12 rfl, by simpa using hf 13 f13 rfl⟩
theorem open_agg14 {r : Reach} {b0 : Nat} {t : TypeId} {f0 f1 f2 f3 f4 f5 f6 f7 f8 f9 f10 f11 f12 f13 : Field} {v : Value} {d : DataW H} {p : List MemPlace} (hs : P.underlying t = some (.struct #[f0, f1, f2, f3, f4, f5, f6, f7, f8, f9, f10, f11, f12, f13])) (hone : oneCellFields P #[f0, f1, f2, f3, f4, f5, f6, f7, f8, f9, f10, f11, f12, f13] = true) (hC : P.cellsOf t = 14)
    (hv : Value.okWide P w r b0 t v) (h : DataW.Trod enc P w base spare held t v d p) :
    ∃ (v0 v1 v2 v3 v4 v5 v6 v7 v8 v9 v10 v11 v12 v13 : Value) (y0 y1 y2 y3 y4 y5 y6 y7 y8 y9 y10 y11 y12 y13 : DataW H × List MemPlace) (n : Nat), v = .agg #[v0, v1, v2, v3, v4, v5, v6, v7, v8, v9, v10, v11, v12, v13] ∧ d = .agg [y0.1, y1.1, y2.1, y3.1, y4.1, y5.1, y6.1, y7.1, y8.1, y9.1, y10.1, y11.1, y12.1, y13.1] ∧ p = y0.2 ++ (y1.2 ++ (y2.2 ++ (y3.2 ++ (y4.2 ++ (y5.2 ++ (y6.2 ++ (y7.2 ++ (y8.2 ++ (y9.2 ++ (y10.2 ++ (y11.2 ++ (y12.2 ++ (y13.2))))))))))))) ∧ DataW.trod enc P w base spare held n f0.type [v0] = some y0 ∧ DataW.trod enc P w base spare held n f1.type [v1] = some y1 ∧ DataW.trod enc P w base spare held n f2.type [v2] = some y2 ∧ DataW.trod enc P w base spare held n f3.type [v3] = some y3 ∧ DataW.trod enc P w base spare held n f4.type [v4] = some y4 ∧ DataW.trod enc P w base spare held n f5.type [v5] = some y5 ∧ DataW.trod enc P w base spare held n f6.type [v6] = some y6 ∧ DataW.trod enc P w base spare held n f7.type [v7] = some y7 ∧ DataW.trod enc P w base spare held n f8.type [v8] = some y8 ∧ DataW.trod enc P w base spare held n f9.type [v9] = some y9 ∧ DataW.trod enc P w base spare held n f10.type [v10] = some y10 ∧ DataW.trod enc P w base spare held n f11.type [v11] = some y11 ∧ DataW.trod enc P w base spare held n f12.type [v12] = some y12 ∧ DataW.trod enc P w base spare held n f13.type [v13] = some y13 := by
  obtain ⟨cs, rfl, hsz⟩ := okWide_struct hs hv
  obtain ⟨c0, c1, c2, c3, c4, c5, c6, c7, c8, c9, c10, c11, c12, c13, rfl⟩ := array14 (hsz.trans hC)
  obtain ⟨fuel, hf⟩ := h
  obtain ⟨y0, y1, y2, y3, y4, y5, y6, y7, y8, y9, y10, y11, y12, y13, n, hx, _, h0, h1, h2, h3, h4, h5, h6, h7, h8, h9, h10, h11, h12, h13⟩ := trod_struct14 hs hf
  obtain ⟨o0, k0⟩ := hone_of hone 0 f0 rfl
  obtain ⟨o1, k1⟩ := hone_of hone 1 f1 rfl
  obtain ⟨o2, k2⟩ := hone_of hone 2 f2 rfl
  obtain ⟨o3, k3⟩ := hone_of hone 3 f3 rfl
  obtain ⟨o4, k4⟩ := hone_of hone 4 f4 rfl
  obtain ⟨o5, k5⟩ := hone_of hone 5 f5 rfl
  obtain ⟨o6, k6⟩ := hone_of hone 6 f6 rfl
  obtain ⟨o7, k7⟩ := hone_of hone 7 f7 rfl
  obtain ⟨o8, k8⟩ := hone_of hone 8 f8 rfl
  obtain ⟨o9, k9⟩ := hone_of hone 9 f9 rfl
  obtain ⟨o10, k10⟩ := hone_of hone 10 f10 rfl
  obtain ⟨o11, k11⟩ := hone_of hone 11 f11 rfl
  obtain ⟨o12, k12⟩ := hone_of hone 12 f12 rfl
  obtain ⟨o13, k13⟩ := hone_of hone 13 f13 rfl
  simp only [Prod.mk.injEq] at hx
  exact ⟨c0, c1, c2, c3, c4, c5, c6, c7, c8, c9, c10, c11, c12, c13, y0, y1, y2, y3, y4, y5, y6, y7, y8, y9, y10, y11, y12, y13, n, rfl, hx.1, hx.2, by simpa [Value.cells, o0, k0] using h0, by simpa [Value.cells, o1, k1] using h1, by simpa [Value.cells, o2, k2] using h2, by simpa [Value.cells, o3, k3] using h3, by simpa [Value.cells, o4, k4] using h4, by simpa [Value.cells, o5, k5] using h5, by simpa [Value.cells, o6, k6] using h6, by simpa [Value.cells, o7, k7] using h7, by simpa [Value.cells, o8, k8] using h8, by simpa [Value.cells, o9, k9] using h9, by simpa [Value.cells, o10, k10] using h10, by simpa [Value.cells, o11, k11] using h11, by simpa [Value.cells, o12, k12] using h12, by simpa [Value.cells, o13, k13] using h13⟩
def Opens (P : Program) (t : TypeId) {α : Type} (d : Kd α) (good : α → Prop) : Prop :=
  ∀ {H : Type} (enc : TypeId × Value → H) (W : World) (fuel : Nat) (cs : List Value) (x : DataW H × List MemPlace),
    DataW.trod enc P W 0 (fun _ => true) true fuel t cs = some x → ∃ a, d.K W a cs ∧ good a
theorem opens_int {P : Program} {t : TypeId} {k : IntKind} (ht : P.underlying t = some (.int k)) : Opens P t (Kd.int k) (fun n => (Lit.int k n).wf = true) := by
  intro H enc W fuel cs x h
  obtain ⟨n, rfl, _, hw⟩ := DataW.trod_int ht h
  exact ⟨n, rfl, hw⟩
theorem listOf {α : Type} {Q : Nat → α → Prop} : ∀ n : Nat, (∀ i, i < n → ∃ y, Q i y) → ∃ l : List α, l.length = n ∧ ∀ i y, l[i]? = some y → Q i y
  | 0, _ => ⟨[], rfl, fun i y h => by simp at h⟩
  | n + 1, h => by
    obtain ⟨l, hl, hq⟩ := listOf n (fun i hi => h i (by omega))
    obtain ⟨y, hy⟩ := h n (by omega)
    refine ⟨l ++ [y], by simp [hl], fun i z hz => ?_⟩
    by_cases hi : i < n
    · rw [List.getElem?_append_left (by omega)] at hz
      exact hq i z hz
    · rw [List.getElem?_append_right (by omega)] at hz
      have hin : i = n := by
        have := (List.getElem?_eq_some_iff.1 hz).1
        simp at this; omega
      subst hin
      simp [hl] at hz
      subst hz
      exact hy
theorem opens_slice {P : Program} {t e : TypeId} {α : Type} {d : Kd α} {good : α → Prop} (ht : P.underlying t = some (.slice e)) (hc : P.cellsOf e = d.sz) (h0 : Opens P e d good) :
    Opens P t (Kd.slice e d) (fun l => (∀ x ∈ l, good x) ∧ l.length ≤ 9223372036854775807) := by
  intro H enc W fuel cs x h
  rcases Deep.open_slice ht h with ⟨rfl, _⟩ | ⟨a, len, cap, m, n, D, Pl, rfl, _, hl, hm, hm', _, hel⟩
  · exact ⟨[], ⟨none, 0, rfl, Nat.le_refl _, rfl, by simp, fun hp => absurd hp (by simp)⟩, by simp, by simp⟩
  · have hlm : len ≤ m := by rw [hm']; simpa using hl
    have hmax : len ≤ 9223372036854775807 := by unfold maxLen at hm; omega
    obtain ⟨l, hlen, hq⟩ := listOf (Q := fun i y => (∃ c : List Value, c.length = d.sz ∧ d.K W y c ∧ ∀ j u, c[j]? = some u → W.cell? (a.add (i * d.sz + j)) = some u) ∧ good y) len (fun i hi => by
      obtain ⟨cs', h1, h2⟩ := hel i (by omega)
      obtain ⟨y, hy, hg⟩ := h0 enc W n cs' _ h2
      obtain ⟨_, h3, h4⟩ := World.cells?_some h1
      refine ⟨y, ⟨cs', by rw [h3, hc], hy, fun j u hu => ?_⟩, hg⟩
      have hj := (List.getElem?_eq_some_iff.1 hu).1
      have := h4 j (by omega)
      rw [hu, hc] at this
      rw [← this, Deep.add_add])
    subst hlen
    exact ⟨l, ⟨some a, cap, rfl, hl, rfl, hmax, fun _ => ⟨a, rfl, fun j p hj => (hq j p hj).1⟩⟩, fun y hy => by
      obtain ⟨i, hi⟩ := List.mem_iff_getElem?.1 hy
      exact (hq i y hi).2, hmax⟩
end Go.Proofs.YtaaifdclojkdmaaDoor.Opn
