/- Texts of this claim, laid together by a program (wip/e/merge2.py): PuTu. -/
import Derived.Test.YtaaifdclojkdmaaDoorZFr24
import Derived.Test.YtaaifdclojkdmaaDoorZFr29
set_option linter.unusedVariables false
set_option linter.unusedSimpArgs false
set_option maxRecDepth 100000
namespace Go.Proofs.YtaaifdclojkdmaaDoor.MFr
open Go.RowKit Go.Proofs.YtaaifdclojkdmaaDoorW.PrintWords Go.Proofs.YtaaifdclojkdmaaDoorW.PrintLast Go.Proofs.YtaaifdclojkdmaaDoorW.PrintMore Go.Proofs.YtaaifdclojkdmaaDoor.Wire Go.Proofs.YtaaifdclojkdmaaDoor.Evl Go.Proofs.YtaaifdclojkdmaaDoor.PSum Go.Proofs.YtaaifdclojkdmaaDoor.Sum
theorem xor8 {x y : Int} (hx : 0 ≤ x ∧ x ≤ 255) (hy : 0 ≤ y ∧ y ≤ 255) : (0 ≤ Go.bits .xor .u8 x y ∧ Go.bits .xor .u8 x y ≤ 255) ∧ byt (Go.bits .xor .u8 x y) = byt x ^^^ byt y := by
 have h1 := byt_nat hx.1 hx.2
 have h2 := byt_nat hy.1 hy.2
 have e : Go.bits .xor .u8 x y = ((byt x ^^^ byt y).toNat : Int) := by
  rw [← h1, ← h2, u8_xor_nat _ _ (byt x).isLt (byt y).isLt, BitVec.toNat_xor]
  have e1 : byt ((byt x).toNat : Int) = byt x := by rw [h1]
  have e2 : byt ((byt y).toNat : Int) = byt y := by rw [h2]
  rw [e1, e2]
 have := (byt x ^^^ byt y).isLt
 refine ⟨by rw [e]; omega, ?_⟩
 exact byt_of e
theorem rdm {l : List Int} {i : Int} (h0 : 0 ≤ i) (h1 : i < (l.length : Int)) : rd l i ∈ l := by
 unfold rd
 rw [List.getD_eq_getElem?_getD, List.getElem?_eq_getElem (by omega)]
 simp
theorem bitAt_byte : ∀ (l : List (BitVec 8)) (j : Nat), bitAt l j = (l.getD (j / 8) 0#8).getLsbD (7 - j % 8)
 | [], j => by simp [bitAt]
 | c :: l, j => by
  have ih := bitAt_byte l (j - 8)
  unfold bitAt at ih ⊢
  rw [List.flatMap_cons]
  by_cases h : j < 8
  ·rw [List.getD_eq_getElem?_getD, List.getElem?_append_left (by simp [Sum.bits]; omega)]
   have e0 : j / 8 = 0 := by omega
   have e1 : j % 8 = j := by omega
   rw [e0, e1]
   have : j = 0 ∨ j = 1 ∨ j = 2 ∨ j = 3 ∨ j = 4 ∨ j = 5 ∨ j = 6 ∨ j = 7 := by omega
   rcases this with rfl | rfl | rfl | rfl | rfl | rfl | rfl | rfl <;> rfl
  ·rw [List.getD_eq_getElem?_getD, List.getElem?_append_right (by simp [Sum.bits]; omega), show (Sum.bits c).length = 8 from rfl]
   rw [List.getD_eq_getElem?_getD] at ih
   rw [ih]
   have e0 : j / 8 = (j - 8) / 8 + 1 := by omega
   have e1 : (j - 8) % 8 = j % 8 := by omega
   rw [e0, e1]
   simp
theorem one_bit (r : Int) (h0 : 0 ≤ r) (h1 : r < 8) : 0 ≤ shr .u8 128 r ∧ shr .u8 128 r ≤ 255 ∧ ∀ q : Nat, q < 8 → q ≠ r.toNat → (byt (shr .u8 128 r)).getLsbD (7 - q) = false := by
 have h : ∀ r : Fin 8, (0 ≤ shr .u8 128 (r.val : Int) ∧ shr .u8 128 (r.val : Int) ≤ 255) ∧ ∀ q : Fin 8, q.val ≠ r.val → (byt (shr .u8 128 (r.val : Int))).getLsbD (7 - q.val) = false := by decide +kernel
 have hr := h ⟨r.toNat, by omega⟩
 rw [show ((⟨r.toNat, by omega⟩ : Fin 8).val : Int) = r by simp; omega] at hr
 exact ⟨hr.1.1, hr.1.2, fun q hq hne => hr.2 ⟨q, hq⟩ hne⟩
theorem turn_bit {x : List Int} (hb : Bys x) (p : Int) (h0 : 0 ≤ p) (h1 : p / 8 < (x.length : Int)) :
  Bys (x.set (p / 8).toNat (Go.bits .xor .u8 (rd x (p / 8)) (shr .u8 128 (p % 8)))) ∧
   ∀ j : Nat, j ≠ p.toNat → bitAt (L (x.set (p / 8).toNat (Go.bits .xor .u8 (rd x (p / 8)) (shr .u8 128 (p % 8))))) j = bitAt (L x) j := by
 obtain ⟨o1, o2, o3⟩ := one_bit (p % 8) (by omega) (by omega)
 have hx := hb _ (rdm (l := x) (i := p / 8) (by omega) h1)
 have hv := xor8 hx ⟨o1, o2⟩
 constructor
 ·intro y hy
  rcases List.mem_or_eq_of_mem_set hy with h | h
  ·exact hb y h
  ·rw [h]; exact hv.1
 ·intro j hj
  rw [bitAt_byte, bitAt_byte]
  have hq : (p / 8).toNat < x.length := by omega
  have e : L (x.set (p / 8).toNat (Go.bits .xor .u8 (rd x (p / 8)) (shr .u8 128 (p % 8)))) = (L x).set (p / 8).toNat (byt (rd x (p / 8)) ^^^ byt (shr .u8 128 (p % 8))) := by
   unfold L
   rw [List.map_set, hv.2]
  rw [e]
  by_cases hj8 : j / 8 = (p / 8).toNat
  ·rw [List.getD_eq_getElem?_getD, List.getD_eq_getElem?_getD, hj8, List.getElem?_set_self (by rw [L_length]; exact hq), List.getElem?_eq_getElem (by rw [L_length]; exact hq)]
   simp only [Option.getD_some, BitVec.getLsbD_xor]
   rw [o3 (j % 8) (by omega) (by omega)]
   have e2 : (L x)[(p / 8).toNat]'(by rw [L_length]; exact hq) = byt (rd x (p / 8)) := by
    unfold L rd
    rw [List.getElem_map, List.getD_eq_getElem?_getD, List.getElem?_eq_getElem hq]
    rfl
   rw [e2]
   simp
  ·rw [List.getD_eq_getElem?_getD, List.getD_eq_getElem?_getD, List.getElem?_set_ne (fun h => hj8 h.symm)]
theorem L_sld (l : List Int) : L (sld l) = L l ++ Sum.bytes (more 0#32 (L l)) := by
 unfold sld
 rw [L_append, L_sb]
theorem turns_loop {at_ row : Int} {b : List Int} {n : Nat} (a0 : 0 ≤ at_) (a1 : at_ ≤ 100000) (hn : n ≤ 10000) (d : Nat) : ∀ (i : Int) (x : List Int), 0 ≤ i → i + d = 32 → x.length = n → Bys x →
  ∃ c, c.length = n ∧ Bys c ∧ (∀ j : Nat, (j < at_.toNat ∨ at_.toNat + 32 ≤ j) → bitAt (L c) j = bitAt (L x) j) ∧
   ∀ r, (frame_Decode.f c).bind (fun bt => if (strOfNums c).toList = (strOfNums b).toList then some (bt.2.2.2.2.2.2.2.2.2.2.2.2.2.2 == 0) else some (bt.2.2.2.2.2.2.2.2.2.2.2.2.2.2 == 4)) = some r → Evl (fun k => drumlinelaw4_FrameTurns.l0 k row b x at_ i) r := by
 have out : ∀ (i : Int) (x : List Int), ∀ r, (frame_Decode.f x).bind (fun bt => if (strOfNums x).toList = (strOfNums b).toList then some (bt.2.2.2.2.2.2.2.2.2.2.2.2.2.2 == 0) else some (bt.2.2.2.2.2.2.2.2.2.2.2.2.2.2 == 4)) = some r → Evl (fun k => drumlinelaw4_FrameTurns.j2 k row b x at_ i false) r := by
  intro i x r hr
  refine Evl.stop (fun k => ?_)
  simp only [drumlinelaw4_FrameTurns.j2]
  rw [if_neg (by simp)]
  exact hr
 induction d with
 | zero =>
  intro i x h0 h1 h2 h3
  refine ⟨x, h2, h3, fun _ _ => rfl, fun r hr => ?_⟩
  refine Evl.step (h := fun k => drumlinelaw4_FrameTurns.j2 k row b x at_ i false) (fun k => ?_) (out i x r hr)
  simp only [drumlinelaw4_FrameTurns.l0]
  rw [if_neg (by omega)]
 | succ d ih =>
  intro i x h0 h1 h2 h3
  have ew : wrap64 (at_ + i) = at_ + i := w64 (by omega) (by omega)
  have e8 : wrap64 (8 * (x.length : Int)) = 8 * (x.length : Int) := w64 (by omega) (by omega)
  by_cases hlt : at_ + i < 8 * (x.length : Int)
  ·have hq : (at_ + i) / 8 < (x.length : Int) := by omega
   have step : ∀ {r : Bool} (y : List Int), Evl (fun k => drumlinelaw4_FrameTurns.l0 k row b y at_ (i + 1)) r →
     (∀ k, drumlinelaw4_FrameTurns.j2 (k + 1) row b x at_ i true = drumlinelaw4_FrameTurns.l0 k row b y at_ (i + 1)) → Evl (fun k => drumlinelaw4_FrameTurns.l0 k row b x at_ i) r := by
    intro c y hy he
    refine Evl.step (h := fun k => drumlinelaw4_FrameTurns.j2 k row b x at_ i true) (fun k => ?_) (Evl.step he hy)
    simp only [drumlinelaw4_FrameTurns.l0]
    rw [if_pos (by omega), ew, e8, decide_eq_true hlt]
   by_cases hb : Go.bits .and .u32 (shr .u32 row (IntKind.u64.wrap i)) 1 = 1
   ·obtain ⟨t1, t2⟩ := turn_bit h3 (at_ + i) (by omega) hq
    obtain ⟨c, c2, c3, c4, c1⟩ := ih (i + 1) _ (by omega) (by omega) (by rw [List.length_set]; exact h2) t1
    refine ⟨c, c2, c3, fun j hj => (c4 j hj).trans (t2 j (by omega)), fun r hr => step _ (c1 r hr) (fun k => ?_)⟩
    have ed : wrap64 (Int.tdiv (at_ + i) 8) = (at_ + i) / 8 := by
     rw [Int.tdiv_eq_ediv_of_nonneg (by omega)]
     exact w64 (by omega) (by omega)
    have em : IntKind.u64.wrap (Int.tmod (at_ + i) 8) = (at_ + i) % 8 := by
     rw [Int.tmod_eq_emod_of_nonneg (by omega)]
     simp [IntKind.wrap, IntKind.signed, IntKind.bits]; omega
    simp only [drumlinelaw4_FrameTurns.j2, if_true, ew, ed, em]
    rw [if_pos (show 0 ≤ IntKind.u64.wrap i by simp [IntKind.wrap, IntKind.signed, IntKind.bits]; omega), if_pos hb, if_pos (by omega), if_pos hq, if_pos (by omega), w64 (x := i + 1) (by omega) (by omega)]
   ·obtain ⟨c, c2, c3, c4, c1⟩ := ih (i + 1) x (by omega) (by omega) h2 h3
    refine ⟨c, c2, c3, c4, fun r hr => step x (c1 r hr) (fun k => ?_)⟩
    simp only [drumlinelaw4_FrameTurns.j2, if_true]
    rw [if_pos (show 0 ≤ IntKind.u64.wrap i by simp [IntKind.wrap, IntKind.signed, IntKind.bits]; omega), if_neg hb, w64 (x := i + 1) (by omega) (by omega)]
  ·refine ⟨x, h2, h3, fun _ _ => rfl, fun r hr => ?_⟩
   refine Evl.step (h := fun k => drumlinelaw4_FrameTurns.j2 k row b x at_ i false) (fun k => ?_) (out i x r hr)
   simp only [drumlinelaw4_FrameTurns.l0]
   rw [if_pos (by omega), ew, e8, decide_eq_false hlt]
theorem turns_main (f : Fr) (h : In f) (hof : Ok f) (at_ row e : Int) (a0 : 0 ≤ at_) (a1 : at_ ≤ 65535) : Evl (fun k => drumlinelaw4_FrameTurns.j0 k at_ row (sld (encF f)) e false f.k f.p f.n f.wt f.msk f.lk f.fl f.cy f.of_ f.ag f.f1 f.f2 f.sq f.bd) true := by
 have hby := sld_bys (enc_bysF (f := f) h.bd)
 have hlen := enc_len_le hof
 have hl2 := sld_length (encF f)
 have hdb := decode_back hof h.bd
 generalize hz : sld (encF f) = z at hby hl2 hdb
 refine Evl.step (h := fun k => drumlinelaw4_FrameTurns.l0 k row z z (at_ % (8 * (z.length : Int))) 0) (fun k => ?_) ?_
 ·simp only [drumlinelaw4_FrameTurns.j0]
  rw [if_neg (by decide), if_pos (show ([] : List Int).length + z.length < 140737488355328 by rw [List.length_nil]; omega), List.nil_append, Option.bind_some, w64 (x := 8 * (z.length : Int)) (by omega) (by omega), w64 (x := at_) (by omega) (by omega), Int.tmod_eq_emod_of_nonneg a0, if_neg (show ¬ 8 * (z.length : Int) = 0 by omega)]
 have q0 := Int.emod_nonneg at_ (show (8 * (z.length : Int)) ≠ 0 by omega)
 have q1 := Int.emod_lt_of_pos at_ (show 0 < 8 * (z.length : Int) by omega)
 generalize at_ % (8 * (z.length : Int)) = q at q0 q1
 obtain ⟨d, d2, d3, d4, d1⟩ := turns_loop (row := row) (b := z) q0 (by omega) (show z.length ≤ 10000 by omega) 32 0 z (by omega) (by omega) rfl hby
 refine d1 true ?_
 have e2 : isSld d = true → d = z := by
  unfold isSld
  rw [decide_eq_true_iff]
  rintro ⟨g1, g2⟩
  have hlen2 : (encF f).length = (d.take (d.length - 4)).length := by rw [List.length_take]; omega
  have := burst_sealed (b := L (encF f)) (d := L (d.take (d.length - 4))) (at_ := q.toNat) (by rw [L_length, L_length, hlen2]) (fun i hi => by
   rw [← L_sld, ← L_sld, g2, hz]
   exact (d4 i hi).symm)
  rw [← L_sld, ← L_sld, g2, hz] at this
  exact (L_inj hby d3 this).symm
 have ed : (strOfNums d).toList = (strOfNums z).toList ↔ d = z := str_same d3 hby
 by_cases hdz : d = z
 ·subst hdz
  rw [hdb]
  simp
 ·have hns : isSld d = false := by
   cases hh : isSld d with
   | false => rfl
   | true => exact absurd (e2 hh) hdz
  have hp : parseF d = (Fr.zero, 4, (d.length : Int) - 4) := by
   unfold parseF
   rw [if_neg (by have := (fields_back hof).2.2; omega), if_pos hns]
  unfold frame_Decode.f
  rw [if_pos ⟨by omega, isBys_iff d3⟩, hp]
  simp only [Option.bind_some]
  rw [if_neg (fun q => hdz (ed.1 q))]
  rfl
theorem FrameTurns_ (f : Fr) (h : In f) (at_ row : Int) (a0 : 0 ≤ at_) (a1 : at_ ≤ 65535) : Evl (fun k => drumlinelaw4_FrameTurns.f k f.k f.p f.n f.wt f.msk f.lk f.fl f.cy f.of_ f.ag f.f1 f.f2 f.sq f.bd at_ row) true := by
 obtain ⟨r5, e5, i5⟩ := rmay_evl (f := f) h.ag h.bd
 have triv : ∀ (x : List Int) (e : Int), (e = 0 ↔ Ok f) → Evl (fun k => drumlinelaw4_FrameTurns.j0 k at_ row x e true f.k f.p f.n f.wt f.msk f.lk f.fl f.cy f.of_ f.ag f.f1 f.f2 f.sq f.bd) true := by
  intro x e he
  refine Evl.succ ?_
  simp only [drumlinelaw4_FrameTurns.j0, if_true]
  refine Evl.bind alive_evl ?_
  simp only [if_true]
  refine Evl.bind e5 (Evl.now fun _ => ?_)
  have : (e == 0) = r5 := by
   rw [Bool.eq_iff_iff, i5]
   simpa using he
  rw [this]
  simp
 have go : ∀ (x : List Int) (e : Int), Evl (fun k => frame_Encode.f k f.k f.p f.n f.wt f.msk f.lk f.fl f.cy f.of_ f.ag f.f1 f.f2 f.sq f.bd) (x, e) → (e = 0 ↔ Ok f) → (Ok f → x = sld (encF f)) → Evl (fun k => drumlinelaw4_FrameTurns.f k f.k f.p f.n f.wt f.msk f.lk f.fl f.cy f.of_ f.ag f.f1 f.f2 f.sq f.bd at_ row) true := by
  intro x e ha he hx
  unfold drumlinelaw4_FrameTurns.f
  refine Evl.bind ha (Evl.bind alive_evl ?_)
  simp only [if_true]
  rw [small_is]
  simp only [Option.bind_some]
  by_cases hs : f.ag.length ≤ 40 ∧ f.bd.length ≤ 100
  ·simp only [decide_eq_true hs, if_true]
   by_cases h0 : e = 0
   ·simp only [if_pos h0]
    by_cases hr : (row == 0) = true
    ·rw [hr]
     exact triv x e he
    ·have hof := he.1 h0
     rw [show (row == 0) = false by simpa using hr]
     rw [hx hof]
     exact turns_main f h hof at_ row e a0 a1
   ·simp only [if_neg h0]
    exact triv x e he
  ·simp only [decide_eq_false hs, Bool.false_eq_true, if_false]
   exact triv x e he
 by_cases ho : Ok f
 ·exact go _ _ ((encode_evl h.ag h.bd h.of_).1 ho) ⟨fun _ => ho, fun _ => rfl⟩ (fun _ => rfl)
 ·exact go _ _ ((encode_evl h.ag h.bd h.of_).2 ho) ⟨fun q => absurd q (by decide), fun q => absurd q ho⟩ (fun q => absurd q ho)
end Go.Proofs.YtaaifdclojkdmaaDoor.MFr
