/- Texts of this claim, laid together by a program (wip/e/merge2.py): PuDe, PuLs. -/
import Derived.Test.YtaaifdclojkdmaaGreatDoorZFz33
import Derived.Test.YtaaifdclojkdmaaGreatDoorZFz35
import Derived.Test.YtaaifdclojkdmaaGreatDoorZFz36
set_option linter.unusedVariables false
set_option linter.unusedSimpArgs false
set_option maxRecDepth 100000
namespace Go.Proofs.YtaaifdclojkdmaaGreatDoor.MFr
open Go.RowKit Go.Proofs.YtaaifdclojkdmaaGreatDoorW.PrintWords Go.Proofs.YtaaifdclojkdmaaGreatDoorW.PrintLast Go.Proofs.YtaaifdclojkdmaaGreatDoorW.PrintMore Go.Proofs.YtaaifdclojkdmaaGreatDoor.Wire Go.Proofs.YtaaifdclojkdmaaGreatDoor.Evl Go.Proofs.YtaaifdclojkdmaaGreatDoor.PSum Go.Proofs.YtaaifdclojkdmaaGreatDoor.Sum
variable {x : List Int} {s : St}
theorem drop_cut {a n : Int} (h : 0 ≤ a) (hn : 0 ≤ n) (hl : a + n ≤ x.length) : x.drop a.toNat = cut x a n ++ x.drop (a + n).toNat := by
 rw [cut_drop h hn, show (a + n).toNat = a.toNat + n.toNat by omega, ← List.drop_drop, List.take_append_drop]
theorem enc_self {l : List Int} {n : Nat} (hb : Bys l) (hl : l.length = n) : enc (num l) n = l := by
 rw [← hl]; exact enc_num hb
theorem put_read (hx : Bys x) {w lo hi : Int} (a0 : 0 ≤ s.at_) (w1 : 1 ≤ w) (w7 : w ≤ 7) (lo0 : 0 ≤ lo) (h : (plainS x s w lo hi).e = 0) :
  s.e = 0 ∧ lo ≤ plainN x s w ∧ plainN x s w ≤ hi ∧ plainS x s w lo hi = ⟨s.at_ + w, 0, s.ea⟩ ∧ x.drop s.at_.toNat = pl w (plainN x s w) ++ x.drop (plainS x s w lo hi).at_.toNat := by
 obtain ⟨e0, hn, hlo, hhi, hs, hv⟩ := plainS_e0 h
 refine ⟨e0, hlo, hhi, hs, ?_⟩
 have hl := cut_len x s.at_ w a0 (by omega) hn
 have hb := bys_cut (a := s.at_) (n := w) hx
 have hm := num_in hb
 have hnum : plainN x s w = num (cut x s.at_ w) := by rw [hv]; unfold numR; rw [if_pos (by omega)]
 rw [show (cut x s.at_ w).length = w.toNat by omega] at hm
 rw [hs]
 show x.drop s.at_.toNat = pl w (plainN x s w) ++ x.drop (s.at_ + w).toNat
 rw [drop_cut (n := w) a0 (by omega) (by omega), pl_enc w1 w7 (by omega) (by rw [hnum]; exact hm.2), hnum, enc_self hb (by omega)]
theorem put_signed (hx : Bys x) (a0 : 0 ≤ s.at_) (h : (signedS x s 6).e = 0) :
  s.e = 0 ∧ -1099511627776 ≤ signedN x s 6 ∧ signedN x s 6 ≤ 1099511627776 ∧ x.drop s.at_.toNat = sg 6 (signedN x s 6) ++ x.drop (signedS x s 6).at_.toNat := by
 unfold signedS at h ⊢
 unfold signedN
 split at h
 case isFalse k => exact absurd h k
 rename_i k
 split at h
 case isFalse k2 => simp at h
 rename_i r
 obtain ⟨e0, hn⟩ := enough_yes k
 rw [if_pos k, if_pos k, if_pos r]
 refine ⟨e0, r.1, r.2, ?_⟩
 show x.drop s.at_.toNat = sg 6 (offR (cut x s.at_ 6)) ++ x.drop (s.at_ + 6).toNat
 have hl := cut_len x s.at_ 6 a0 (by decide) hn
 have hb := bys_cut (a := s.at_) (n := 6) hx
 have hm := num_in hb
 have hp : p 5 = 1099511627776 := by decide
 have hp6 : p 6 = 281474976710656 := by decide
 have hl6 : (cut x s.at_ 6).length = 6 := by omega
 rw [hl6] at hm
 have hsg : sg 6 (offR (cut x s.at_ 6)) = enc (offR (cut x s.at_ 6)) 6 := by
  unfold sg signedR
  rw [if_pos ⟨by decide, by decide, by rw [hf6v]; omega, by rw [hf6v]; omega⟩]
  rfl
 rw [drop_cut (n := 6) a0 (by decide) (by omega), hsg]
 congr 1
 unfold offR
 rw [hl6, if_pos (by omega)]
 split
 ·have := enc_add (num (cut x s.at_ 6)) (-1) 6
  rw [show num (cut x s.at_ 6) - p 6 = num (cut x s.at_ 6) + (-1) * p 6 by omega, this, enc_self hb hl6]
 ·rw [enc_self hb hl6]
theorem put_agesR (hx : Bys x) : ∀ (n : Nat) (s : St) (acc : List Int), 0 ≤ s.at_ → (agesR x n s acc).2.e = 0 →
  ∃ L, (agesR x n s acc).1 = acc ++ L ∧ L.length = n ∧ (∀ a ∈ L, 0 ≤ a ∧ a ≤ 201) ∧ s.e = 0 ∧ 0 ≤ (agesR x n s acc).2.at_ ∧ x.drop s.at_.toNat = L.flatMap (pl 1) ++ x.drop (agesR x n s acc).2.at_.toNat
 | 0, s, acc, a0, h => ⟨[], by simp [agesR], rfl, by simp, h, a0, by simp [agesR]⟩
 | n + 1, s, acc, a0, h => by
  by_cases he : s.e = 0
  ·have e1 : agesR x (n + 1) s acc = agesR x n (plainS x s 1 0 201) (acc ++ [plainN x s 1]) := if_pos he
   rw [e1] at h ⊢
   have ha1 : 0 ≤ (plainS x s 1 0 201).at_ := by
    unfold plainS
    split
    ·split <;> (dsimp only; omega)
    ·unfold enoughS; split <;> exact a0
   obtain ⟨L, h1, h2, h3, h4, h5, h6⟩ := put_agesR hx n _ _ ha1 h
   obtain ⟨q1, q2, q3, q4, q5⟩ := put_read hx a0 (by decide) (by decide) (by decide) h4
   refine ⟨plainN x s 1 :: L, by rw [h1]; simp, by simp [h2], ?_, he, h5, ?_⟩
   ·intro a ha
    rcases List.mem_cons.1 ha with rfl | ha
    ·exact ⟨q2, q3⟩
    ·exact h3 a ha
   ·rw [q5, List.flatMap_cons, List.append_assoc, h6]
  ·have e1 : agesR x (n + 1) s acc = (acc, s) := if_neg he
   rw [e1] at h
   exact absurd h he
theorem put_ages (hx : Bys x) (a0 : 0 ≤ s.at_) (h : (agesF x s).2.e = 0) :
  s.e = 0 ∧ agesOk (agesF x s).1 = true ∧ 0 ≤ (agesF x s).2.at_ ∧ x.drop s.at_.toNat = agesB (agesF x s).1 ++ x.drop (agesF x s).2.at_.toNat := by
 unfold agesF at h ⊢
 have ha1 : 0 ≤ (plainS x s 1 1 6).at_ := by
  unfold plainS
  split
  ·split <;> (dsimp only; omega)
  ·unfold enoughS; split <;> exact a0
 obtain ⟨L, h1, h2, h3, h4, h5, h6⟩ := put_agesR hx _ _ _ ha1 h
 obtain ⟨q1, q2, q3, q4, q5⟩ := put_read hx a0 (by decide) (by decide) (by decide) h4
 rw [List.nil_append] at h1
 rw [h1]
 refine ⟨q1, ?_, h5, ?_⟩
 ·unfold agesOk
  simp only [Bool.and_eq_true, decide_eq_true_eq, Bool.not_eq_true', List.any_eq_false]
  refine ⟨by omega, fun a ha => ?_⟩
  have := h3 a ha
  unfold noAge
  simpa using this
 ·unfold agesB
  rw [q5, List.append_assoc, show ((L.length : Nat) : Int) = plainN x s 1 by omega, h6]
theorem put_body (hx : Bys x) (a0 : 0 ≤ s.at_) (h : (bodyF x s).2.e = 0) :
  s.e = 0 ∧ (bodyF x s).1.length ≤ 24 ∧ Bys (bodyF x s).1 ∧ 0 ≤ (bodyF x s).2.at_ ∧ x.drop s.at_.toNat = pl 1 (bodyF x s).1.length ++ ((bodyF x s).1 ++ x.drop (bodyF x s).2.at_.toNat) := by
 unfold bodyF at h ⊢
 split at h
 case isFalse k => exact absurd h k
 rename_i k
 rw [if_pos k]
 obtain ⟨k1, k2⟩ := enough_yes k
 obtain ⟨q1, q2, q3, q4, q5⟩ := put_read hx a0 (by decide) (by decide) (by decide) k1
 have ha : 0 ≤ (plainS x s 1 0 24).at_ := by rw [q4]; show 0 ≤ s.at_ + 1; omega
 have hl := cut_len x (plainS x s 1 0 24).at_ (plainN x s 1) ha q2 k2
 have hd := drop_cut (x := x) (a := (plainS x s 1 0 24).at_) (n := plainN x s 1) ha q2 (by omega)
 refine ⟨q1, by dsimp only; omega, bys_cut hx, by dsimp only; omega, ?_⟩
 dsimp only
 rw [hl, q5, ← hd]
theorem pl_at0 {w lo hi : Int} (a0 : 0 ≤ s.at_) (w0 : 0 ≤ w) : 0 ≤ (plainS x s w lo hi).at_ := by
 unfold plainS
 split
 ·split <;> (dsimp only; omega)
 ·unfold enoughS; split <;> exact a0
theorem fields_put (hx : Bys x) {k : Int} (hk : 1 ≤ k ∧ k ≤ 5) (hd0 : x = pl 1 k ++ x.drop 1) (h : (fieldsF x ⟨1, 0, 0⟩ k).2.e = 0) (hend : (fieldsF x ⟨1, 0, 0⟩ k).2.at_ ≥ x.length) :
  Ok (fieldsF x ⟨1, 0, 0⟩ k).1 ∧ encF (fieldsF x ⟨1, 0, 0⟩ k).1 = x ∧ Bys (fieldsF x ⟨1, 0, 0⟩ k).1.bd := by
 have nil_ : Bys ([] : List Int) := fun a ha => by simp at ha
 have a1 : 0 ≤ (⟨1, 0, 0⟩ : St).at_ := by decide
 have a2 := pl_at0 (x := x) (w := 1) (lo := 0) (hi := 5) a1 (by decide)
 have a3 := pl_at0 (x := x) (w := 1) (lo := 0) (hi := 11) a2 (by decide)
 have dropE : ∀ {a : Int}, a ≥ x.length → x.drop a.toNat = [] := fun {a} ha => List.drop_eq_nil_iff.2 (by omega)
 have zlk : (0 : Int) ≤ 0 ∧ (0 : Int) < 10 := by decide
 have zwt : (0 : Int) ≤ 0 ∧ (0 : Int) ≤ 60000 := by decide
 have zmk : (0 : Int) ≤ 0 ∧ (0 : Int) < 4096 := by decide
 have zcy : (0 : Int) ≤ 0 ∧ (0 : Int) ≤ 1099511627776 := by decide
 have zof : (-1099511627776 : Int) ≤ 0 ∧ (0 : Int) ≤ 1099511627776 := by decide
 have zf : (0 : Int) ≤ 0 ∧ (0 : Int) < 6 := by decide
 have zbd : ([] : List Int).length ≤ 24 := by decide
 have one : ∀ {p' n' : Int}, 0 ≤ p' → p' ≤ 5 → 0 ≤ n' → n' ≤ 11 → (0 ≤ p' ∧ p' < 6) ∧ (0 ≤ n' ∧ n' < 12) := fun h1 h2 h3 h4 => ⟨⟨h1, by omega⟩, ⟨h3, by omega⟩⟩
 have hd : x.drop (⟨1, 0, 0⟩ : St).at_.toNat = x.drop 1 := rfl
 unfold fieldsF at h hend ⊢
 dsimp only at h hend ⊢
 by_cases k1 : k = 1
 ·subst k1
  simp only [if_true] at h hend ⊢
  have a4 := pl_at0 (x := x) (w := 2) (lo := 0) (hi := 60000) a3 (by decide)
  obtain ⟨e3, l3, u3, s3, d3⟩ := put_read hx a3 (by decide) (by decide) (by decide) h
  obtain ⟨e2, l2, u2, s2, d2⟩ := put_read hx a2 (by decide) (by decide) (by decide) e3
  obtain ⟨e1, l1, u1, s1, d1⟩ := put_read hx a1 (by decide) (by decide) (by decide) e2
  obtain ⟨hp', hn'⟩ := one l1 u1 l2 u2
  refine ⟨{ kind := (show (1 : Int) ≤ 1 ∧ (1 : Int) ≤ 5 by decide), own := rfl, p := hp', n := hn', lk := zlk, wt := ⟨l3, u3⟩, msk := zmk, cy := zcy, of_ := zof, f1 := zf, f2 := zf, sq := fun q => absurd q (show ¬ ((1 : Int) = 5) by decide), bd := zbd, ag := fun q => absurd q (show ¬ ((1 : Int) = 2 ∨ (1 : Int) = 4) by decide) }, ?_, nil_⟩
  refine Eq.trans (enc_split (show (1 : Int) ≤ 1 ∧ (1 : Int) ≤ 5 by decide)) ?_
  unfold tailP
  dsimp only
  rw [if_pos rfl]
  have hz := dropE hend
  rw [hz, List.append_nil] at d3
  refine Eq.trans (congrArg _ ?_) hd0.symm
  refine Eq.trans (congrArg _ ?_) d1.symm
  refine Eq.trans (congrArg _ ?_) d2.symm
  exact d3.symm
 simp only [if_neg k1] at h hend ⊢
 by_cases k2 : k = 2
 ·subst k2
  simp only [if_true] at h hend ⊢
  have a4 := pl_at0 (x := x) (w := 6) (lo := 0) (hi := 1099511627776) a3 (by decide)
  have a5 := pl_at0 (x := x) (w := 2) (lo := 0) (hi := 4095) a4 (by decide)
  obtain ⟨e5, g5, z5, d5⟩ := put_ages hx a5 h
  obtain ⟨e4, l4, u4, s4, d4⟩ := put_read hx a4 (by decide) (by decide) (by decide) e5
  obtain ⟨e3, l3, u3, s3, d3⟩ := put_read hx a3 (by decide) (by decide) (by decide) e4
  obtain ⟨e2, l2, u2, s2, d2⟩ := put_read hx a2 (by decide) (by decide) (by decide) e3
  obtain ⟨e1, l1, u1, s1, d1⟩ := put_read hx a1 (by decide) (by decide) (by decide) e2
  obtain ⟨hp', hn'⟩ := one l1 u1 l2 u2
  refine ⟨{ kind := (show (1 : Int) ≤ 2 ∧ (2 : Int) ≤ 5 by decide), own := rfl, p := hp', n := hn', lk := zlk, wt := zwt, msk := ⟨l4, by have := u4; dsimp only; omega⟩, cy := ⟨l3, u3⟩, of_ := zof, f1 := zf, f2 := zf, sq := fun q => absurd q (show ¬ ((2 : Int) = 5) by decide), bd := zbd, ag := fun _ => g5 }, ?_, nil_⟩
  refine Eq.trans (enc_split (show (1 : Int) ≤ 2 ∧ (2 : Int) ≤ 5 by decide)) ?_
  unfold tailP
  dsimp only
  rw [if_neg (by decide), if_pos rfl]
  have hz := dropE hend
  rw [hz, List.append_nil] at d5
  refine Eq.trans (congrArg _ ?_) hd0.symm
  refine Eq.trans (congrArg _ ?_) d1.symm
  refine Eq.trans (congrArg _ ?_) d2.symm
  refine Eq.trans (congrArg _ ?_) d3.symm
  refine Eq.trans (congrArg _ ?_) d4.symm
  exact d5.symm
 simp only [if_neg k2] at h hend ⊢
 by_cases k3 : k = 3
 ·subst k3
  simp only [if_true] at h hend ⊢
  have a4 := pl_at0 (x := x) (w := 1) (lo := 0) (hi := 9) a3 (by decide)
  have a5 := pl_at0 (x := x) (w := 1) (lo := 0) (hi := 1) a4 (by decide)
  have a6 := pl_at0 (x := x) (w := 6) (lo := 0) (hi := 1099511627776) a5 (by decide)
  obtain ⟨e6, l6, u6, d6⟩ := put_signed hx a6 h
  obtain ⟨e5, l5, u5, s5, d5⟩ := put_read hx a5 (by decide) (by decide) (by decide) e6
  obtain ⟨e4, l4, u4, s4, d4⟩ := put_read hx a4 (by decide) (by decide) (by decide) e5
  obtain ⟨e3, l3, u3, s3, d3⟩ := put_read hx a3 (by decide) (by decide) (by decide) e4
  obtain ⟨e2, l2, u2, s2, d2⟩ := put_read hx a2 (by decide) (by decide) (by decide) e3
  obtain ⟨e1, l1, u1, s1, d1⟩ := put_read hx a1 (by decide) (by decide) (by decide) e2
  obtain ⟨hp', hn'⟩ := one l1 u1 l2 u2
  refine ⟨{ kind := (show (1 : Int) ≤ 3 ∧ (3 : Int) ≤ 5 by decide), own := rfl, p := hp', n := hn', lk := ⟨l3, by have := u3; dsimp only; omega⟩, wt := zwt, msk := zmk, cy := ⟨l5, u5⟩, of_ := ⟨l6, u6⟩, f1 := zf, f2 := zf, sq := fun q => absurd q (show ¬ ((3 : Int) = 5) by decide), bd := zbd, ag := fun q => absurd q (show ¬ ((3 : Int) = 2 ∨ (3 : Int) = 4) by decide) }, ?_, nil_⟩
  refine Eq.trans (enc_split (show (1 : Int) ≤ 3 ∧ (3 : Int) ≤ 5 by decide)) ?_
  unfold tailP
  dsimp only
  rw [if_neg (by decide), if_neg (by decide), if_pos rfl]
  have hfl : bitI (plainN x (plainS x (plainS x (plainS x ⟨1, 0, 0⟩ 1 0 5) 1 0 11) 1 0 9) 1 == 1) = plainN x (plainS x (plainS x (plainS x ⟨1, 0, 0⟩ 1 0 5) 1 0 11) 1 0 9) 1 := by
   rcases (show plainN x (plainS x (plainS x (plainS x ⟨1, 0, 0⟩ 1 0 5) 1 0 11) 1 0 9) 1 = 0 ∨ plainN x (plainS x (plainS x (plainS x ⟨1, 0, 0⟩ 1 0 5) 1 0 11) 1 0 9) 1 = 1 by omega) with q | q <;> rw [q] <;> rfl
  rw [hfl]
  have hz := dropE hend
  rw [hz, List.append_nil] at d6
  refine Eq.trans (congrArg _ ?_) hd0.symm
  refine Eq.trans (congrArg _ ?_) d1.symm
  refine Eq.trans (congrArg _ ?_) d2.symm
  refine Eq.trans (congrArg _ ?_) d3.symm
  refine Eq.trans (congrArg _ ?_) d4.symm
  refine Eq.trans (congrArg _ ?_) d5.symm
  exact d6.symm
 simp only [if_neg k3] at h hend ⊢
 by_cases k4 : k = 4
 ·subst k4
  simp only [if_true] at h hend ⊢
  have a4 := pl_at0 (x := x) (w := 1) (lo := 0) (hi := 9) a3 (by decide)
  obtain ⟨e4, g4, z4, d4⟩ := put_ages hx a4 h
  obtain ⟨e3, l3, u3, s3, d3⟩ := put_read hx a3 (by decide) (by decide) (by decide) e4
  obtain ⟨e2, l2, u2, s2, d2⟩ := put_read hx a2 (by decide) (by decide) (by decide) e3
  obtain ⟨e1, l1, u1, s1, d1⟩ := put_read hx a1 (by decide) (by decide) (by decide) e2
  obtain ⟨hp', hn'⟩ := one l1 u1 l2 u2
  refine ⟨{ kind := (show (1 : Int) ≤ 4 ∧ (4 : Int) ≤ 5 by decide), own := rfl, p := hp', n := hn', lk := ⟨l3, by have := u3; dsimp only; omega⟩, wt := zwt, msk := zmk, cy := zcy, of_ := zof, f1 := zf, f2 := zf, sq := fun q => absurd q (show ¬ ((4 : Int) = 5) by decide), bd := zbd, ag := fun _ => g4 }, ?_, nil_⟩
  refine Eq.trans (enc_split (show (1 : Int) ≤ 4 ∧ (4 : Int) ≤ 5 by decide)) ?_
  unfold tailP
  dsimp only
  rw [if_neg (by decide), if_neg (by decide), if_neg (by decide), if_pos rfl]
  have hz := dropE hend
  rw [hz, List.append_nil] at d4
  refine Eq.trans (congrArg _ ?_) hd0.symm
  refine Eq.trans (congrArg _ ?_) d1.symm
  refine Eq.trans (congrArg _ ?_) d2.symm
  refine Eq.trans (congrArg _ ?_) d3.symm
  exact d4.symm
 simp only [if_neg k4] at h hend ⊢
 obtain rfl : k = 5 := by omega
 have a4 := pl_at0 (x := x) (w := 1) (lo := 0) (hi := 9) a3 (by decide)
 have a5 := pl_at0 (x := x) (w := 1) (lo := 0) (hi := 5) a4 (by decide)
 have a6 := pl_at0 (x := x) (w := 1) (lo := 0) (hi := 5) a5 (by decide)
 have a7 := pl_at0 (x := x) (w := 4) (lo := 1) (hi := 2147483648) a6 (by decide)
 obtain ⟨e7, m7, y7, z7, d7⟩ := put_body hx a7 h
 obtain ⟨e6, l6, u6, s6, d6⟩ := put_read hx a6 (by decide) (by decide) (by decide) e7
 obtain ⟨e5, l5, u5, s5, d5⟩ := put_read hx a5 (by decide) (by decide) (by decide) e6
 obtain ⟨e4, l4, u4, s4, d4⟩ := put_read hx a4 (by decide) (by decide) (by decide) e5
 obtain ⟨e3, l3, u3, s3, d3⟩ := put_read hx a3 (by decide) (by decide) (by decide) e4
 obtain ⟨e2, l2, u2, s2, d2⟩ := put_read hx a2 (by decide) (by decide) (by decide) e3
 obtain ⟨e1, l1, u1, s1, d1⟩ := put_read hx a1 (by decide) (by decide) (by decide) e2
 obtain ⟨hp', hn'⟩ := one l1 u1 l2 u2
 refine ⟨{ kind := (show (1 : Int) ≤ 5 ∧ (5 : Int) ≤ 5 by decide), own := rfl, p := hp', n := hn', lk := ⟨l3, by have := u3; dsimp only; omega⟩, wt := zwt, msk := zmk, cy := zcy, of_ := zof, f1 := ⟨l4, by have := u4; dsimp only; omega⟩, f2 := ⟨l5, by have := u5; dsimp only; omega⟩, sq := fun _ => ⟨l6, u6⟩, bd := m7, ag := fun q => absurd q (show ¬ ((5 : Int) = 2 ∨ (5 : Int) = 4) by decide) }, ?_, y7⟩
 refine Eq.trans (enc_split (show (1 : Int) ≤ 5 ∧ (5 : Int) ≤ 5 by decide)) ?_
 unfold tailP
 dsimp only
 rw [if_neg (by decide), if_neg (by decide), if_neg (by decide), if_neg (by decide)]
 have hz := dropE hend
 rw [hz, List.append_nil] at d7
 refine Eq.trans (congrArg _ ?_) hd0.symm
 refine Eq.trans (congrArg _ ?_) d1.symm
 refine Eq.trans (congrArg _ ?_) d2.symm
 refine Eq.trans (congrArg _ ?_) d3.symm
 refine Eq.trans (congrArg _ ?_) d4.symm
 refine Eq.trans (congrArg _ ?_) d5.symm
 refine Eq.trans (congrArg _ ?_) d6.symm
 exact d7.symm
end Go.Proofs.YtaaifdclojkdmaaGreatDoor.MFr
set_option linter.unusedVariables false
set_option linter.unusedSimpArgs false
set_option maxRecDepth 100000
namespace Go.Proofs.YtaaifdclojkdmaaGreatDoor.MFr
open Go.RowKit Go.Proofs.YtaaifdclojkdmaaGreatDoorW.PrintWords Go.Proofs.YtaaifdclojkdmaaGreatDoorW.PrintLast Go.Proofs.YtaaifdclojkdmaaGreatDoorW.PrintMore Go.Proofs.YtaaifdclojkdmaaGreatDoor.Wire Go.Proofs.YtaaifdclojkdmaaGreatDoor.Evl Go.Proofs.YtaaifdclojkdmaaGreatDoor.PSum Go.Proofs.YtaaifdclojkdmaaGreatDoor.Sum
theorem parse_put {b : List Int} (hb : Bys b) (h : (parseF (sld b)).2.1 = 0) : Ok (parseF (sld b)).1 ∧ encF (parseF (sld b)).1 = b ∧ Bys (parseF (sld b)).1.bd := by
 obtain ⟨hs, ht⟩ := sld_isSld b
 unfold parseF at h ⊢
 rw [sld_length] at h ⊢
 by_cases h7 : b.length + 4 < 7
 ·rw [if_pos h7] at h
  exact absurd h (by decide)
 rw [if_neg h7] at h ⊢
 rw [if_neg (show ¬ isSld (sld b) = false by rw [hs]; decide)] at h ⊢
 have hr := rd_sld (l := b) (by omega)
 rw [hr] at h ⊢
 have e4 : (sld b).take (b.length + 4 - 4) = b := by simp [sld]
 by_cases hk : rd b 0 < 1 ∨ 5 < rd b 0
 ·rw [if_pos hk] at h
  exact absurd h (show ¬ ((5 : Int) = 0) by decide)
 rw [if_neg hk] at h ⊢
 rw [e4] at h ⊢
 by_cases he : (fieldsF b ⟨1, 0, 0⟩ (rd b 0)).2.e ≠ 0
 ·rw [if_pos he] at h
  exact absurd h he
 rw [if_neg he] at h ⊢
 by_cases hl : 0 < (b.length : Int) - (fieldsF b ⟨1, 0, 0⟩ (rd b 0)).2.at_
 ·rw [if_pos hl] at h
  exact absurd h (show ¬ ((3 : Int) = 0) by decide)
 rw [if_neg hl]
 refine fields_put hb (by omega) ?_ (by simpa using he) (by omega)
 cases b with
 | nil => simp at h7
 | cons a t =>
  have ha : rd (a :: t) 0 = a := rfl
  rw [ha] at hk ⊢
  have hp : p 1 = 256 := by decide
  rw [pl_enc (by decide) (by decide) (by omega) (by show a < p 1; omega)]
  show a :: t = [(a / p 0) % 256] ++ t
  rw [show p 0 = 1 from rfl, Int.ediv_one, Int.emod_eq_of_lt (by omega) (by omega)]
  rfl
theorem sealed_1 (b : List Int) (hb : Bys b) (f : Fr) (e : Int) (hag : f.ag.length ≤ 9223372036854775807) (hbd : Bys f.bd) (h : e = 0 → Ok f ∧ encF f = b) :
  Evl (fun k => drumlinelaw4_FrameSealed.j1 k (sld b) e false f.k f.p f.n f.wt f.msk f.lk f.fl f.cy f.of_ f.ag f.f1 f.f2 f.sq f.bd) true := by
 refine Evl.succ ?_
 simp only [drumlinelaw4_FrameSealed.j1, Bool.false_eq_true, if_false]
 by_cases he : e = 0
 ·obtain ⟨ho, hE⟩ := h he
  simp only [if_pos he]
  have hof := ho.of_
  refine Evl.bind ((encode_evl hag hbd ⟨by omega, by omega⟩).1 ho) (Evl.now fun _ => ?_)
  dsimp only
  rw [if_pos rfl, hE]
  simp
 ·simp only [if_neg he]
  exact Evl.now fun _ => rfl
theorem sealed_j (l : List Int) (hb : Bys l) (c : Bool) (h : c = false → l.length ≤ 200) : Evl (fun k => drumlinelaw4_FrameSealed.j0 k l c) true := by
 cases c with
 | true =>
  refine Evl.step (fun k => ?_) (Evl.bind alive_evl (Evl.now fun _ => rfl) : Evl (fun k => (drumlinelaw4_alive.f k).bind fun t => some t) true)
  simp only [drumlinelaw4_FrameSealed.j0, if_true]
 | false =>
  have hl := h rfl
  have hs := sld_bys hb
  have hsl := sld_length l
  obtain ⟨hag, hbd⟩ := parse_in hs
  obtain ⟨r, hr, hi⟩ := rsame_evl (f := (parseF (sld l)).1) (g := (parseF (sld l)).1) hag hbd hbd
  rw [hi.2 rfl] at hr
  refine Evl.succ ?_
  simp only [drumlinelaw4_FrameSealed.j0, Bool.false_eq_true, if_false]
  refine Evl.bind (rseal_evl hb (by omega)) ?_
  rw [dec_is hs (by omega), rdec_is hs (by omega), why_is hs (by omega), rwhy_is hs (by omega)]
  simp only [Option.bind_some, rnum_is]
  refine Evl.bind hr ?_
  simp only [if_true, bne_self_eq_false]
  exact sealed_1 l hb _ _ hag hbd (fun he => ⟨(parse_put hb he).1, (parse_put hb he).2.1⟩)
theorem FrameSealed_ (l : List Int) (hb : Bys l) : Evl (fun k => drumlinelaw4_FrameSealed.f k l) true := by
 unfold drumlinelaw4_FrameSealed.f
 refine Evl.bind alive_evl ?_
 simp only [if_true]
 exact sealed_j l hb _ (fun h => by have := of_decide_eq_false h; omega)
end Go.Proofs.YtaaifdclojkdmaaGreatDoor.MFr
