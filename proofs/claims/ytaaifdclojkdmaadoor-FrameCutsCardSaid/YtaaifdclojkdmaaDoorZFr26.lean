/- Texts of this claim, laid together by a program (wip/e/merge2.py): PuCf, PuCu. -/
import Derived.Test.YtaaifdclojkdmaaDoorZFr12
import Derived.Test.YtaaifdclojkdmaaDoorZFr16
import Derived.Test.YtaaifdclojkdmaaDoorZFr24
import Derived.Test.YtaaifdclojkdmaaDoorZFr25
set_option linter.unusedVariables false
set_option linter.unusedSimpArgs false
set_option maxRecDepth 100000
namespace Go.Proofs.YtaaifdclojkdmaaDoor.MFr
open Go.RowKit Go.Proofs.YtaaifdclojkdmaaDoorW.PrintWords Go.Proofs.YtaaifdclojkdmaaDoorW.PrintLast Go.Proofs.YtaaifdclojkdmaaDoorW.PrintMore Go.Proofs.YtaaifdclojkdmaaDoor.Wire Go.Proofs.YtaaifdclojkdmaaDoor.Evl Go.Proofs.YtaaifdclojkdmaaDoor.PSum
theorem cut_app {x y : List Int} {a n : Int} (h : a + n ≤ x.length) : cut (x ++ y) a n = cut x a n := by
 unfold cut
 rw [List.take_append_of_le_length (by omega)]
theorem en_keep {x : List Int} (y : List Int) {s : St} {n : Int} (h : (enoughS x s n).e ≠ 2) : s.e ≠ 2 ∧ enoughS (x ++ y) s n = enoughS x s n ∧ ((enoughS x s n).e = 0 → s.e = 0 ∧ s.at_ + n ≤ x.length ∧ enoughS x s n = s) := by
 unfold enoughS at h ⊢
 by_cases he : s.e = 0
 ·by_cases hn : (x.length : Int) - s.at_ < n
  ·rw [if_pos ⟨he, hn⟩] at h
   exact absurd rfl h
  ·rw [if_neg (fun q => hn q.2)] at h
   have hn2 : ¬ (s.e = 0 ∧ ((x ++ y).length : Int) - s.at_ < n) := fun q => hn (by have := q.2; rw [List.length_append] at this; omega)
   have hn1 : ¬ (s.e = 0 ∧ (x.length : Int) - s.at_ < n) := fun q => hn q.2
   simp only [if_neg hn1, if_neg hn2]
   exact ⟨h, trivial, fun _ => ⟨he, by omega, trivial⟩⟩
 ·rw [if_neg (fun q => he q.1)] at h ⊢
  rw [if_neg (fun q => he q.1)]
  exact ⟨h, rfl, fun q => absurd q he⟩
theorem en_at {x : List Int} {s : St} {n : Int} : (enoughS x s n).at_ = s.at_ := by
 unfold enoughS
 split <;> rfl
theorem en_zero {x : List Int} {s : St} {n : Int} (h : (enoughS x s n).e = 0) : s.e = 0 ∧ s.at_ + n ≤ x.length := by
 have := en_keep (x := x) (s := s) (n := n) [] (by rw [h]; decide)
 exact ⟨(this.2.2 h).1, (this.2.2 h).2.1⟩
theorem pl_at {x : List Int} {s : St} {w lo hi : Int} (a0 : 0 ≤ s.at_) (a1 : s.at_ ≤ x.length) (w0 : 0 ≤ w) : 0 ≤ (plainS x s w lo hi).at_ ∧ (plainS x s w lo hi).at_ ≤ x.length := by
 unfold plainS
 by_cases he : (enoughS x s w).e = 0
 ·have := en_zero he
  rw [if_pos he]
  split <;> (dsimp only; omega)
 ·rw [if_neg he, en_at]
  exact ⟨a0, a1⟩
theorem pl_keep {x : List Int} (y : List Int) {s : St} {w lo hi : Int} (h : (plainS x s w lo hi).e ≠ 2) : s.e ≠ 2 ∧ plainS (x ++ y) s w lo hi = plainS x s w lo hi ∧ plainN (x ++ y) s w = plainN x s w := by
 have hen : (enoughS x s w).e ≠ 2 := by
  intro q
  apply h
  unfold plainS
  rw [if_neg (by rw [q]; decide), q]
 obtain ⟨h1, h2, h3⟩ := en_keep y hen
 unfold plainS plainN
 rw [h2]
 refine ⟨h1, ?_⟩
 by_cases he : (enoughS x s w).e = 0
 ·rw [cut_app (h3 he).2.1]
  exact ⟨rfl, rfl⟩
 ·simp only [if_neg he]
  exact ⟨trivial, trivial⟩
theorem sg_at {x : List Int} {s : St} {w : Int} (a0 : 0 ≤ s.at_) (a1 : s.at_ ≤ x.length) (w0 : 0 ≤ w) : 0 ≤ (signedS x s w).at_ ∧ (signedS x s w).at_ ≤ x.length := by
 unfold signedS
 by_cases he : (enoughS x s w).e = 0
 ·have := en_zero he
  rw [if_pos he]
  split <;> (dsimp only; omega)
 ·rw [if_neg he, en_at]
  exact ⟨a0, a1⟩
theorem sg_keep {x : List Int} (y : List Int) {s : St} {w : Int} (h : (signedS x s w).e ≠ 2) : s.e ≠ 2 ∧ signedS (x ++ y) s w = signedS x s w ∧ signedN (x ++ y) s w = signedN x s w := by
 have hen : (enoughS x s w).e ≠ 2 := by
  intro q
  apply h
  unfold signedS
  rw [if_neg (by rw [q]; decide), q]
 obtain ⟨h1, h2, h3⟩ := en_keep y hen
 unfold signedS signedN
 rw [h2]
 refine ⟨h1, ?_⟩
 by_cases he : (enoughS x s w).e = 0
 ·rw [cut_app (h3 he).2.1]
  exact ⟨rfl, rfl⟩
 ·simp only [if_neg he]
  exact ⟨trivial, trivial⟩
theorem ag_at {x : List Int} : ∀ (n : Nat) (s : St) (acc : List Int), 0 ≤ s.at_ → s.at_ ≤ x.length → 0 ≤ (agesR x n s acc).2.at_ ∧ (agesR x n s acc).2.at_ ≤ x.length
 | 0, s, acc, a0, a1 => ⟨a0, a1⟩
 | n + 1, s, acc, a0, a1 => by
  unfold agesR
  split
  ·obtain ⟨b0, b1⟩ := pl_at (x := x) (s := s) (w := 1) (lo := 0) (hi := 201) a0 a1 (by decide)
   exact ag_at n _ _ b0 b1
  ·exact ⟨a0, a1⟩
theorem agR_keep {x : List Int} (y : List Int) : ∀ (n : Nat) (s : St) (acc : List Int), (agesR x n s acc).2.e ≠ 2 → s.e ≠ 2 ∧ agesR (x ++ y) n s acc = agesR x n s acc
 | 0, s, acc, h => ⟨h, rfl⟩
 | n + 1, s, acc, h => by
  unfold agesR at h ⊢
  by_cases he : s.e = 0
  ·rw [if_pos he] at h ⊢
   obtain ⟨h1, h2⟩ := agR_keep y n _ _ h
   obtain ⟨h3, h4, h5⟩ := pl_keep y h1
   rw [if_pos he, h4, h5]
   exact ⟨h3, h2⟩
  ·rw [if_neg he] at h ⊢
   rw [if_neg he]
   exact ⟨h, rfl⟩
theorem agF_at {x : List Int} {s : St} (a0 : 0 ≤ s.at_) (a1 : s.at_ ≤ x.length) : 0 ≤ (agesF x s).2.at_ ∧ (agesF x s).2.at_ ≤ x.length := by
 obtain ⟨b0, b1⟩ := pl_at (x := x) (s := s) (w := 1) (lo := 1) (hi := 6) a0 a1 (by decide)
 exact ag_at _ _ _ b0 b1
theorem agF_keep {x : List Int} (y : List Int) {s : St} (h : (agesF x s).2.e ≠ 2) : s.e ≠ 2 ∧ agesF (x ++ y) s = agesF x s := by
 unfold agesF at h ⊢
 obtain ⟨h1, h2⟩ := agR_keep y _ _ _ h
 obtain ⟨h3, h4, h5⟩ := pl_keep y h1
 rw [h4, h5]
 exact ⟨h3, h2⟩
theorem bd_at {x : List Int} {s : St} (a0 : 0 ≤ s.at_) (a1 : s.at_ ≤ x.length) (hn : 0 ≤ plainN x s 1) : 0 ≤ (bodyF x s).2.at_ ∧ (bodyF x s).2.at_ ≤ x.length := by
 obtain ⟨b0, b1⟩ := pl_at (x := x) (s := s) (w := 1) (lo := 0) (hi := 24) a0 a1 (by decide)
 unfold bodyF
 by_cases he : (enoughS x (plainS x s 1 0 24) (plainN x s 1)).e = 0
 ·have := en_zero he
  rw [if_pos he]
  dsimp only
  omega
 ·rw [if_neg he]
  dsimp only
  rw [en_at]
  exact ⟨b0, b1⟩
theorem bd_keep {x : List Int} (y : List Int) {s : St} (h : (bodyF x s).2.e ≠ 2) : s.e ≠ 2 ∧ bodyF (x ++ y) s = bodyF x s := by
 have hen : (enoughS x (plainS x s 1 0 24) (plainN x s 1)).e ≠ 2 := by
  intro q
  apply h
  unfold bodyF
  rw [if_neg (by rw [q]; decide)]
  exact q
 obtain ⟨h1, h2, h3⟩ := en_keep y hen
 obtain ⟨h4, h5, h6⟩ := pl_keep y h1
 unfold bodyF
 rw [h5, h6, h2]
 refine ⟨h4, ?_⟩
 by_cases he : (enoughS x (plainS x s 1 0 24) (plainN x s 1)).e = 0
 ·rw [if_pos he, if_pos he, cut_app (h3 he).2.1]
 ·rw [if_neg he, if_neg he]
theorem fields_keep {x : List Int} (y : List Int) {s : St} {k : Int} (h : (fieldsF x s k).2.e ≠ 2) : fieldsF (x ++ y) s k = fieldsF x s k := by
 unfold fieldsF at h ⊢
 dsimp only at h ⊢
 by_cases k1 : k = 1
 ·simp only [if_pos k1] at h ⊢
  obtain ⟨h1, e1, g1⟩ := pl_keep y h
  obtain ⟨h2, e2, g2⟩ := pl_keep y h1
  obtain ⟨h3, e3, g3⟩ := pl_keep y h2
  rw [e3, e2, e1, g3, g2, g1]
 simp only [if_neg k1] at h ⊢
 by_cases k2 : k = 2
 ·simp only [if_pos k2] at h ⊢
  obtain ⟨h0, e0⟩ := agF_keep y h
  obtain ⟨h1, e1, g1⟩ := pl_keep y h0
  obtain ⟨h2, e2, g2⟩ := pl_keep y h1
  obtain ⟨h3, e3, g3⟩ := pl_keep y h2
  obtain ⟨h4, e4, g4⟩ := pl_keep y h3
  rw [e4, e3, e2, e1, e0, g4, g3, g2, g1]
 simp only [if_neg k2] at h ⊢
 by_cases k3 : k = 3
 ·simp only [if_pos k3] at h ⊢
  obtain ⟨h0, e0, g0⟩ := sg_keep y h
  obtain ⟨h1, e1, g1⟩ := pl_keep y h0
  obtain ⟨h2, e2, g2⟩ := pl_keep y h1
  obtain ⟨h3, e3, g3⟩ := pl_keep y h2
  obtain ⟨h4, e4, g4⟩ := pl_keep y h3
  obtain ⟨h5, e5, g5⟩ := pl_keep y h4
  rw [e5, e4, e3, e2, e1, e0, g5, g4, g3, g2, g1, g0]
 simp only [if_neg k3] at h ⊢
 by_cases k4 : k = 4
 ·simp only [if_pos k4] at h ⊢
  obtain ⟨h0, e0⟩ := agF_keep y h
  obtain ⟨h1, e1, g1⟩ := pl_keep y h0
  obtain ⟨h2, e2, g2⟩ := pl_keep y h1
  obtain ⟨h3, e3, g3⟩ := pl_keep y h2
  rw [e3, e2, e1, e0, g3, g2, g1]
 simp only [if_neg k4] at h ⊢
 obtain ⟨h0, e0⟩ := bd_keep y h
 obtain ⟨h1, e1, g1⟩ := pl_keep y h0
 obtain ⟨h2, e2, g2⟩ := pl_keep y h1
 obtain ⟨h3, e3, g3⟩ := pl_keep y h2
 obtain ⟨h4, e4, g4⟩ := pl_keep y h3
 obtain ⟨h5, e5, g5⟩ := pl_keep y h4
 obtain ⟨h6, e6, g6⟩ := pl_keep y h5
 rw [e6, e5, e4, e3, e2, e1, e0, g6, g5, g4, g3, g2, g1]
theorem plN_nn {x : List Int} (hb : Bys x) {s : St} (a0 : 0 ≤ s.at_) : 0 ≤ plainN x s 1 := (plainN1 (s := s) hb a0).1
theorem fields_at {x : List Int} (hb : Bys x) {s : St} {k : Int} (a0 : 0 ≤ s.at_) (a1 : s.at_ ≤ x.length) : (fieldsF x s k).2.at_ ≤ x.length := by
 unfold fieldsF
 dsimp only
 have P : ∀ {s : St} {w lo hi : Int}, 0 ≤ w → 0 ≤ s.at_ ∧ s.at_ ≤ x.length → 0 ≤ (plainS x s w lo hi).at_ ∧ (plainS x s w lo hi).at_ ≤ x.length := fun w0 h => pl_at h.1 h.2 w0
 have h2 : 0 ≤ (plainS x (plainS x s 1 0 5) 1 0 11).at_ ∧ (plainS x (plainS x s 1 0 5) 1 0 11).at_ ≤ x.length := P (by decide) (P (by decide) ⟨a0, a1⟩)
 by_cases k1 : k = 1
 ·simp only [if_pos k1]
  exact (P (by decide) h2).2
 simp only [if_neg k1]
 by_cases k2 : k = 2
 ·simp only [if_pos k2]
  have h3 := P (w := 2) (lo := 0) (hi := 4095) (by decide) (P (w := 6) (lo := 0) (hi := 1099511627776) (by decide) h2)
  exact (agF_at h3.1 h3.2).2
 simp only [if_neg k2]
 by_cases k3 : k = 3
 ·simp only [if_pos k3]
  have h3 := P (w := 6) (lo := 0) (hi := 1099511627776) (by decide) (P (w := 1) (lo := 0) (hi := 1) (by decide) (P (w := 1) (lo := 0) (hi := 9) (by decide) h2))
  exact (sg_at h3.1 h3.2 (by decide)).2
 simp only [if_neg k3]
 by_cases k4 : k = 4
 ·simp only [if_pos k4]
  have h3 := P (w := 1) (lo := 0) (hi := 9) (by decide) h2
  exact (agF_at h3.1 h3.2).2
 simp only [if_neg k4]
 have h3 := P (w := 4) (lo := 1) (hi := 2147483648) (by decide) (P (w := 1) (lo := 0) (hi := 5) (by decide) (P (w := 1) (lo := 0) (hi := 5) (by decide) (P (w := 1) (lo := 0) (hi := 9) (by decide) h2)))
 exact (bd_at h3.1 h3.2 (plN_nn hb h3.1)).2
end Go.Proofs.YtaaifdclojkdmaaDoor.MFr
set_option linter.unusedVariables false
set_option linter.unusedSimpArgs false
set_option maxRecDepth 100000
namespace Go.Proofs.YtaaifdclojkdmaaDoor.MFr
open Go.RowKit Go.Proofs.YtaaifdclojkdmaaDoorW.PrintWords Go.Proofs.YtaaifdclojkdmaaDoorW.PrintLast Go.Proofs.YtaaifdclojkdmaaDoorW.PrintMore Go.Proofs.YtaaifdclojkdmaaDoor.Wire Go.Proofs.YtaaifdclojkdmaaDoor.Evl Go.Proofs.YtaaifdclojkdmaaDoor.PSum
theorem cuts_short {f : Fr} (h : Ok f) (hbd : Bys f.bd) {m : Nat} (hm : m < (encF f).length) : (parseF (sld ((encF f).take m))).2.1 = 2 := by
 obtain ⟨hfb, hr, hl⟩ := fields_back h
 have hk := h.kind
 have hlt : ((encF f).take m).length = m := by rw [List.length_take]; omega
 obtain ⟨hs, ht⟩ := sld_isSld ((encF f).take m)
 unfold parseF
 by_cases h7 : (sld ((encF f).take m)).length < 7
 ·rw [if_pos h7]
 ·rw [if_neg h7]
  rw [sld_length, hlt] at h7
  have hr2 : rd (sld ((encF f).take m)) 0 = f.k := by rw [rd_sld (by omega), rd_take (by omega), hr]
  have e2 : (fieldsF ((encF f).take m) ⟨1, 0, 0⟩ f.k).2.e = 2 := by
   by_cases hc : (fieldsF ((encF f).take m) ⟨1, 0, 0⟩ f.k).2.e = 2
   ·exact hc
   ·have hkp := fields_keep ((encF f).drop m) hc
    rw [List.take_append_drop, hfb] at hkp
    have hat := fields_at (x := (encF f).take m) (bys_take (enc_bysF hbd) m) (s := ⟨1, 0, 0⟩) (k := f.k) (by decide) (by rw [hlt]; dsimp only; omega)
    rw [← hkp, hlt] at hat
    dsimp only at hat
    omega
  rw [hs, if_neg (by decide), hr2, if_neg (by omega), ht, if_pos (by rw [e2]; decide), e2]
theorem cuts_long {f : Fr} (h : Ok f) {y : List Int} (hy : 1 ≤ y.length) : (parseF (sld (encF f ++ y))).2.1 = 3 := by
 obtain ⟨hfb, hr, hl⟩ := fields_back h
 have hk := h.kind
 obtain ⟨hs, ht⟩ := sld_isSld (encF f ++ y)
 have hla : (encF f ++ y).length = (encF f).length + y.length := List.length_append
 have hr2 : rd (sld (encF f ++ y)) 0 = f.k := by
  rw [rd_sld (by omega), ← hr]
  cases hx : encF f with
  | nil => rw [hx] at hl; simp at hl
  | cons a t => rfl
 have e3 : fieldsF (encF f ++ y) ⟨1, 0, 0⟩ f.k = (f, ⟨((encF f).length : Int), 0, 0⟩) := by
  rw [fields_keep y (by rw [hfb]; show (0 : Int) ≠ 2; decide), hfb]
 unfold parseF
 rw [if_neg (by rw [sld_length]; omega), hs, if_neg (by decide), hr2, if_neg (by omega), ht, e3]
 rw [if_neg (by simp), if_pos (by dsimp only; omega)]
theorem dec_code {l : List Int} (hl : l.length ≤ 100000) (hb : Bys l) : ∃ d, frame_Decode.f l = some d ∧ d.2.2.2.2.2.2.2.2.2.2.2.2.2.2 = (parseF l).2.1 := by
 unfold frame_Decode.f
 rw [if_pos ⟨hl, isBys_iff hb⟩]
 exact ⟨_, rfl, rfl⟩
theorem bys_app {a b : List Int} (ha : Bys a) (hb : Bys b) : Bys (a ++ b) := by
 intro x hx
 rcases List.mem_append.1 hx with h | h
 ·exact ha x h
 ·exact hb x h
theorem cuts_main (f : Fr) (h : In f) (hof : Ok f) (cut_ e : Int) (more : List Int) (c0 : 0 ≤ cut_) (c1 : cut_ ≤ 255) (hm : Bys more) (m1 : 1 ≤ more.length) (m2 : more.length ≤ 50) : Evl (fun k => drumlinelaw4_FrameCuts.j0 k cut_ more (sld (encF f)) e false f.k f.p f.n f.wt f.msk f.lk f.fl f.cy f.of_ f.ag f.f1 f.f2 f.sq f.bd) true := by
 have hby := enc_bysF (f := f) h.bd
 have hlen := enc_len_le hof
 have hl3 := (fields_back hof).2.2
 have hz := sld_length (encF f)
 have ez : ((sld (encF f)).length : Int) - 4 = ((encF f).length : Int) := by omega
 obtain ⟨hs, ht⟩ := sld_isSld (encF f)
 have htk : ∀ n : Nat, n ≤ (encF f).length → (sld (encF f)).take n = (encF f).take n := by
  intro n hn
  unfold sld
  rw [List.take_append_of_le_length hn]
 have p0 := Int.emod_nonneg cut_ (show ((encF f).length : Int) ≠ 0 by omega)
 have p1 := Int.emod_lt_of_pos cut_ (show 0 < ((encF f).length : Int) by omega)
 obtain ⟨K, hK⟩ := Evl.and (rseal_evl (l := (encF f).take (cut_ % ((encF f).length : Int)).toNat) (bys_take hby _) (by rw [List.length_take]; omega)) (rseal_evl (l := encF f ++ more) (bys_app hby hm) (by rw [List.length_append]; omega))
 obtain ⟨d1, hd1, hc1⟩ := dec_code (l := sld ((encF f).take (cut_ % ((encF f).length : Int)).toNat)) (by rw [sld_length, List.length_take]; omega) (sld_bys (bys_take hby _))
 obtain ⟨d2, hd2, hc2⟩ := dec_code (l := sld (encF f ++ more)) (by rw [sld_length, List.length_append]; omega) (sld_bys (bys_app hby hm))
 rw [cuts_short hof h.bd (by omega)] at hc1
 rw [cuts_long hof m1] at hc2
 refine ⟨K + 1, fun k hk => ?_⟩
 obtain ⟨k, rfl⟩ : ∃ k', k = k' + 1 := ⟨k - 1, by omega⟩
 obtain ⟨s1, s2⟩ := hK k (by omega)
 simp only [drumlinelaw4_FrameCuts.j0]
 rw [if_neg (by decide), ez, w64 (x := ((encF f).length : Int)) (by omega) (by omega), if_neg (show ¬ ((encF f).length : Int) = 0 by omega), w64 (x := cut_) (by omega) (by omega), Int.tmod_eq_emod_of_nonneg c0]
 rw [w64 (x := 4 + cut_ % ((encF f).length : Int)) (by omega) (by omega), show 4 + cut_ % ((encF f).length : Int) - 4 = cut_ % ((encF f).length : Int) by omega, w64 (x := cut_ % ((encF f).length : Int)) (by omega) (by omega)]
 rw [if_pos p0, if_pos (by omega), htk _ (by omega), s1, Option.bind_some, hd1, Option.bind_some, if_pos (by omega), if_pos (by omega), htk _ (by omega)]
 rw [show (encF f).take (((encF f).length : Int)).toNat = encF f by rw [Int.toNat_natCast]; exact List.take_length, Option.bind_some, if_pos (show ([] : List Int).length + (encF f).length < 140737488355328 by rw [List.length_nil]; omega), List.nil_append, Option.bind_some, if_pos (by omega), s2, Option.bind_some, hd2, Option.bind_some, hc1, if_pos rfl, hc2]
 rfl
theorem FrameCuts_ (f : Fr) (h : In f) (cut_ : Int) (more : List Int) (c0 : 0 ≤ cut_) (c1 : cut_ ≤ 255) (hm : Bys more) : Evl (fun k => drumlinelaw4_FrameCuts.f k f.k f.p f.n f.wt f.msk f.lk f.fl f.cy f.of_ f.ag f.f1 f.f2 f.sq f.bd cut_ more) true := by
 obtain ⟨r5, e5, i5⟩ := rmay_evl (f := f) h.ag h.bd
 have triv : ∀ (x : List Int) (e : Int), (e = 0 ↔ Ok f) → Evl (fun k => drumlinelaw4_FrameCuts.j0 k cut_ more x e true f.k f.p f.n f.wt f.msk f.lk f.fl f.cy f.of_ f.ag f.f1 f.f2 f.sq f.bd) true := by
  intro x e he
  refine Evl.succ ?_
  simp only [drumlinelaw4_FrameCuts.j0, if_true]
  refine Evl.bind alive_evl ?_
  simp only [if_true]
  refine Evl.bind e5 (Evl.now fun _ => ?_)
  have : (e == 0) = r5 := by
   rw [Bool.eq_iff_iff, i5]
   simpa using he
  rw [this]
  simp
 have go : ∀ (x : List Int) (e : Int), Evl (fun k => frame_Encode.f k f.k f.p f.n f.wt f.msk f.lk f.fl f.cy f.of_ f.ag f.f1 f.f2 f.sq f.bd) (x, e) → (e = 0 ↔ Ok f) → (Ok f → x = sld (encF f)) → Evl (fun k => drumlinelaw4_FrameCuts.f k f.k f.p f.n f.wt f.msk f.lk f.fl f.cy f.of_ f.ag f.f1 f.f2 f.sq f.bd cut_ more) true := by
  intro x e ha he hx
  unfold drumlinelaw4_FrameCuts.f
  refine Evl.bind ha (Evl.bind alive_evl ?_)
  simp only [if_true]
  rw [small_is]
  simp only [Option.bind_some]
  by_cases hs : f.ag.length ≤ 40 ∧ f.bd.length ≤ 100
  ·simp only [decide_eq_true hs, if_true]
   by_cases h0 : e = 0
   ·simp only [if_pos h0]
    by_cases h7 : (x.length : Int) < 7
    ·simp only [if_pos h7]
     exact triv x e he
    ·simp only [if_neg h7]
     by_cases hm0 : (more.length : Int) = 0
     ·simp only [if_pos hm0]
      exact triv x e he
     ·simp only [if_neg hm0]
      by_cases hm5 : (more.length : Int) > 50
      ·rw [decide_eq_true hm5]
       exact triv x e he
      ·have hof := he.1 h0
       rw [decide_eq_false hm5, hx hof]
       exact cuts_main f h hof cut_ e more c0 c1 hm (by omega) (by omega)
   ·simp only [if_neg h0]
    exact triv x e he
  ·simp only [decide_eq_false hs, Bool.false_eq_true, if_false]
   exact triv x e he
 by_cases ho : Ok f
 ·exact go _ _ ((encode_evl h.ag h.bd h.of_).1 ho) ⟨fun _ => ho, fun _ => rfl⟩ (fun _ => rfl)
 ·exact go _ _ ((encode_evl h.ag h.bd h.of_).2 ho) ⟨fun q => absurd q (by decide), fun q => absurd q ho⟩ (fun q => absurd q ho)
end Go.Proofs.YtaaifdclojkdmaaDoor.MFr
