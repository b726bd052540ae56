/- Texts of this claim, laid together by a program (wip/e/merge2.py): PuFr. -/
import Derived.Test.YtaaifdclojkdmaaGreatDoorZFz21
import Derived.Test.YtaaifdclojkdmaaGreatDoorZFz27
set_option linter.unusedVariables false
set_option linter.unusedSimpArgs false
set_option maxRecDepth 100000
namespace Go.Proofs.YtaaifdclojkdmaaGreatDoor.MFr
open Go.RowKit Go.Proofs.YtaaifdclojkdmaaGreatDoorW.PrintWords Go.Proofs.YtaaifdclojkdmaaGreatDoorW.PrintLast Go.Proofs.YtaaifdclojkdmaaGreatDoorW.PrintMore Go.Proofs.YtaaifdclojkdmaaGreatDoor.Wire Go.Proofs.YtaaifdclojkdmaaGreatDoor.Evl Go.Proofs.YtaaifdclojkdmaaGreatDoor.PSum Go.Proofs.YtaaifdclojkdmaaGreatDoor.Sum
theorem offR_enc (n : Int) (m : Nat) (h : m ≤ 6) (n0 : -(128 * p m) ≤ n) (n1 : n < 128 * p m) : offR (enc n (m + 1)) = n := by
 have hp := p_pos m
 have e2 : p (m + 1) = 256 * p m := rfl
 rw [offR, enc_len, if_pos (by omega), num_enc, show hf (m + 1) = 128 * p m from rfl]
 by_cases hn : 0 ≤ n
 ·rw [Int.emod_eq_of_lt hn (by omega), if_neg (by omega)]
 ·have e : n % p (m + 1) = n + p (m + 1) := by
   rw [← Int.add_emod_right]
   exact Int.emod_eq_of_lt (by omega) (by omega)
  rw [e, if_pos (by omega)]
  omega
theorem hf6v : hf (6 : Int).toNat = 140737488355328 := by decide
theorem cut_drop {x : List Int} {a n : Int} (h : 0 ≤ a) (hn : 0 ≤ n) : cut x a n = (x.drop a.toNat).take n.toNat := by
 unfold cut
 rw [List.drop_take]
 congr 1
 omega
theorem pl_enc {w n : Int} (w1 : 1 ≤ w) (w7 : w ≤ 7) (h0 : 0 ≤ n) (h1 : n < p w.toNat) : pl w n = enc n w.toNat := by
 unfold pl plainR
 rw [if_pos ⟨w1, w7, h0, h1⟩]
theorem numR_enc {n : Int} {m : Nat} (m1 : 1 ≤ m) (m7 : m ≤ 7) (h0 : 0 ≤ n) (h1 : n < p m) : numR (enc n m) = n := by
 unfold numR
 rw [enc_len, if_pos ⟨m1, m7⟩, num_enc, Int.emod_eq_of_lt h0 h1]
theorem drop_len {x : List Int} {a : Nat} {l r : List Int} (h : x.drop a = l ++ r) (hl : l ≠ []) : a + l.length ≤ x.length ∧ x.drop (a + l.length) = r := by
 have h1 := congrArg List.length h
 rw [List.length_drop, List.length_append] at h1
 have h2 : 0 < l.length := List.length_pos_iff.2 hl
 refine ⟨by omega, ?_⟩
 rw [← List.drop_drop, h]
 simp
theorem read_pl {x : List Int} {s : St} {w n lo hi : Int} {r : List Int} (a0 : 0 ≤ s.at_) (e : s.e = 0) (w1 : 1 ≤ w) (w7 : w ≤ 7) (h0 : 0 ≤ n) (h1 : n < p w.toNat) (hlo : lo ≤ n) (hhi : n ≤ hi) (hd : x.drop s.at_.toNat = pl w n ++ r) :
  plainN x s w = n ∧ plainS x s w lo hi = ⟨s.at_ + w, 0, s.ea⟩ ∧ x.drop (s.at_ + w).toNat = r := by
 have hpl := pl_enc w1 w7 h0 h1
 have hlen : (pl w n).length = w.toNat := by rw [hpl, enc_len]
 have hne : pl w n ≠ [] := by intro q; rw [q] at hlen; simp at hlen; omega
 obtain ⟨hb, hr⟩ := drop_len hd hne
 have hen : enoughS x s w = s := enough_same e (by omega)
 have hcut : cut x s.at_ w = enc n w.toNat := by
  rw [cut_drop a0 (by omega), hd, List.take_left' hlen, hpl]
 have hnum : numR (cut x s.at_ w) = n := by rw [hcut]; exact numR_enc (by omega) (by omega) h0 h1
 refine ⟨?_, ?_, ?_⟩
 ·unfold plainN; rw [hen, if_pos e, hnum]
 ·unfold plainS; rw [hen, if_pos e, hnum, if_pos ⟨hlo, hhi⟩]
 ·rw [← hr, hlen]; congr 1; omega
theorem read_sg {x : List Int} {s : St} {n : Int} {r : List Int} (a0 : 0 ≤ s.at_) (e : s.e = 0) (hlo : -1099511627776 ≤ n) (hhi : n ≤ 1099511627776) (hd : x.drop s.at_.toNat = sg 6 n ++ r) :
  signedN x s 6 = n ∧ signedS x s 6 = ⟨s.at_ + 6, 0, s.ea⟩ ∧ x.drop (s.at_ + 6).toNat = r := by
 have hp : p 5 = 1099511627776 := by decide
 have hsg : sg 6 n = enc n 6 := by
  unfold sg signedR
  rw [if_pos ⟨by decide, by decide, by rw [hf6v]; omega, by rw [hf6v]; omega⟩]
  rfl
 have hlen : (sg 6 n).length = 6 := by rw [hsg, enc_len]
 have hne : sg 6 n ≠ [] := by intro q; rw [q] at hlen; simp at hlen
 obtain ⟨hb, hr⟩ := drop_len hd hne
 have hen : enoughS x s 6 = s := enough_same e (by omega)
 have hcut : cut x s.at_ 6 = enc n 6 := by
  rw [cut_drop a0 (by omega), hd, show (6 : Int).toNat = 6 from rfl, List.take_left' hlen, hsg]
 have hnum : offR (cut x s.at_ 6) = n := by rw [hcut]; exact offR_enc n 5 (by decide) (by omega) (by omega)
 refine ⟨?_, ?_, ?_⟩
 ·unfold signedN; rw [hen, if_pos e, hnum]
 ·unfold signedS; rw [hen, if_pos e, hnum, if_pos ⟨hlo, hhi⟩]
 ·rw [← hr, hlen]; congr 1; omega
theorem read_agesR {x : List Int} : ∀ (l : List Int) (s : St) (acc r : List Int), 0 ≤ s.at_ → s.e = 0 → (∀ a ∈ l, 0 ≤ a ∧ a ≤ 201) → x.drop s.at_.toNat = l.flatMap (pl 1) ++ r →
  agesR x l.length s acc = (acc ++ l, ⟨s.at_ + l.length, 0, s.ea⟩) ∧ x.drop (s.at_ + l.length).toNat = r
 | [], s, acc, r, a0, e, hl, hd => by
  obtain ⟨sa, se, sea⟩ := s
  simp only at e
  subst e
  simp only [List.flatMap_nil, List.nil_append] at hd
  simp [agesR, hd]
 | a :: t, s, acc, r, a0, e, hl, hd => by
  have ha := hl a (by simp)
  rw [List.flatMap_cons, List.append_assoc] at hd
  have hp : p 1 = 256 := by decide
  obtain ⟨h1, h2, h3⟩ := read_pl (lo := 0) (hi := 201) a0 e (by decide) (by decide) ha.1 (by show a < p 1; omega) ha.1 ha.2 hd
  have ih := read_agesR t ⟨s.at_ + 1, 0, s.ea⟩ (acc ++ [a]) r (by show 0 ≤ s.at_ + 1; omega) rfl (fun b hb => hl b (by simp [hb])) h3
  show (if s.e = 0 then agesR x t.length (plainS x s 1 0 201) (acc ++ [plainN x s 1]) else (acc, s)) = _ ∧ _
  rw [if_pos e, h1, h2]
  refine ⟨?_, ?_⟩
  ·rw [ih.1]
   simp only [List.append_assoc, List.singleton_append, Prod.mk.injEq, St.mk.injEq, and_true, true_and, List.length_cons]
   show s.at_ + 1 + (t.length : Int) = s.at_ + ((t.length + 1 : Nat) : Int)
   omega
  ·have := ih.2
   rw [← this]
   congr 1
   simp only [List.length_cons]
   show (s.at_ + ((t.length + 1 : Nat) : Int)).toNat = (s.at_ + 1 + (t.length : Int)).toNat
   omega
theorem agesOk_in {l : List Int} (h : agesOk l = true) : 1 ≤ l.length ∧ l.length ≤ 6 ∧ ∀ a ∈ l, 0 ≤ a ∧ a ≤ 201 := by
 unfold agesOk at h
 simp only [Bool.and_eq_true, decide_eq_true_eq, Bool.not_eq_true', List.any_eq_false] at h
 refine ⟨h.1.1, h.1.2, fun a ha => ?_⟩
 have := h.2 a ha
 unfold noAge at this
 simpa using this
theorem read_ages {x : List Int} {s : St} {l r : List Int} (a0 : 0 ≤ s.at_) (e : s.e = 0) (hl : agesOk l = true) (hd : x.drop s.at_.toNat = agesB l ++ r) :
  agesF x s = (l, ⟨s.at_ + 1 + l.length, 0, s.ea⟩) ∧ x.drop (s.at_ + 1 + l.length).toNat = r := by
 obtain ⟨l1, l6, hin⟩ := agesOk_in hl
 unfold agesB at hd
 rw [List.append_assoc] at hd
 have hp : p 1 = 256 := by decide
 obtain ⟨h1, h2, h3⟩ := read_pl (lo := 1) (hi := 6) a0 e (by decide) (by decide) (by omega : (0 : Int) ≤ l.length) (by show (l.length : Int) < p 1; omega) (by omega) (by omega) hd
 have := read_agesR l ⟨s.at_ + 1, 0, s.ea⟩ [] r (by show 0 ≤ s.at_ + 1; omega) rfl hin h3
 unfold agesF
 rw [h1, h2, show ((l.length : Int)).toNat = l.length by omega, this.1]
 exact ⟨rfl, this.2⟩
theorem read_body {x : List Int} {s : St} {b r : List Int} (a0 : 0 ≤ s.at_) (e : s.e = 0) (hb : b.length ≤ 24) (hd : x.drop s.at_.toNat = pl 1 b.length ++ (b ++ r)) :
  bodyF x s = (b, ⟨s.at_ + 1 + b.length, 0, s.ea⟩) ∧ x.drop (s.at_ + 1 + b.length).toNat = r := by
 have hp : p 1 = 256 := by decide
 obtain ⟨h1, h2, h3⟩ := read_pl (lo := 0) (hi := 24) a0 e (by decide) (by decide) (by omega : (0 : Int) ≤ b.length) (by show (b.length : Int) < p 1; omega) (by omega) (by omega) hd
 have hlen := congrArg List.length h3
 have hlen0 := congrArg List.length hd
 rw [List.length_drop] at hlen hlen0
 simp only [List.length_append] at hlen hlen0
 have hpl : (pl 1 (b.length : Int)).length = 1 := by rw [pl_enc (by decide) (by decide) (by omega) (by show (b.length : Int) < p 1; omega), enc_len]; rfl
 have hen : enoughS x ⟨s.at_ + 1, 0, s.ea⟩ (b.length : Int) = ⟨s.at_ + 1, 0, s.ea⟩ := enough_same rfl (by show (b.length : Int) ≤ (x.length : Int) - (s.at_ + 1); omega)
 unfold bodyF
 rw [h1, h2, hen, if_pos rfl]
 have hc : cut x (s.at_ + 1) (b.length : Int) = b := by
  rw [cut_drop (by omega) (by omega), h3, show ((b.length : Int)).toNat = b.length by omega, List.take_left]
 refine ⟨by rw [hc], ?_⟩
 have : (s.at_ + 1 + (b.length : Int)).toNat = (s.at_ + 1).toNat + b.length := by omega
 rw [this, ← List.drop_drop, h3, List.drop_left]
def spareT (f : Fr) : Fr :=
 if f.k = 1 then ⟨1, f.p, f.n, f.wt, 0, 0, false, 0, 0, [], 0, 0, 0, []⟩
 else if f.k = 2 then ⟨2, f.p, f.n, 0, f.msk, 0, false, f.cy, 0, f.ag, 0, 0, 0, []⟩
 else if f.k = 3 then ⟨3, f.p, f.n, 0, 0, f.lk, f.fl, f.cy, f.of_, [], 0, 0, 0, []⟩
 else if f.k = 4 then ⟨4, f.p, f.n, 0, 0, f.lk, false, 0, 0, f.ag, 0, 0, 0, []⟩
 else ⟨5, f.p, f.n, 0, 0, f.lk, false, 0, 0, [], f.f1, f.f2, f.sq, f.bd⟩
structure Ok (f : Fr) : Prop where
 kind : 1 ≤ f.k ∧ f.k ≤ 5
 own : spareT f = f
 p : 0 ≤ f.p ∧ f.p < 6
 n : 0 ≤ f.n ∧ f.n < 12
 lk : 0 ≤ f.lk ∧ f.lk < 10
 wt : 0 ≤ f.wt ∧ f.wt ≤ 60000
 msk : 0 ≤ f.msk ∧ f.msk < 4096
 cy : 0 ≤ f.cy ∧ f.cy ≤ 1099511627776
 of_ : -1099511627776 ≤ f.of_ ∧ f.of_ ≤ 1099511627776
 ag : f.k = 2 ∨ f.k = 4 → agesOk f.ag = true
 f1 : 0 ≤ f.f1 ∧ f.f1 < 6
 f2 : 0 ≤ f.f2 ∧ f.f2 < 6
 sq : f.k = 5 → 1 ≤ f.sq ∧ f.sq ≤ 2147483648
 bd : f.bd.length ≤ 24
def encF (f : Fr) : List Int := encP f.k f.p f.n f.wt f.msk f.lk f.fl f.cy f.of_ f.ag f.f1 f.f2 f.sq f.bd
theorem spare_back {f : Fr} (h : spareT f = f) :
  (f.k = 1 → f = ⟨1, f.p, f.n, f.wt, 0, 0, false, 0, 0, [], 0, 0, 0, []⟩) ∧ (f.k = 2 → f = ⟨2, f.p, f.n, 0, f.msk, 0, false, f.cy, 0, f.ag, 0, 0, 0, []⟩) ∧
  (f.k = 3 → f = ⟨3, f.p, f.n, 0, 0, f.lk, f.fl, f.cy, f.of_, [], 0, 0, 0, []⟩) ∧ (f.k = 4 → f = ⟨4, f.p, f.n, 0, 0, f.lk, false, 0, 0, f.ag, 0, 0, 0, []⟩) ∧
  (f.k = 5 → f = ⟨5, f.p, f.n, 0, 0, f.lk, false, 0, 0, [], f.f1, f.f2, f.sq, f.bd⟩) := by
 refine ⟨fun k => ?_, fun k => ?_, fun k => ?_, fun k => ?_, fun k => ?_⟩ <;> (conv => lhs; rw [← h]) <;> unfold spareT <;> rw [k] <;> rfl
theorem p1v : p 1 = 256 := by decide
theorem p2v : p 2 = 65536 := by decide
theorem p4v : p 4 = 4294967296 := by decide
theorem p6v : p 6 = 281474976710656 := by decide
theorem pl_l {w n : Int} (w1 : 1 ≤ w) (w7 : w ≤ 7) (h0 : 0 ≤ n) (h1 : n < p w.toNat) : ((pl w n).length : Int) = w := by
 rw [pl_enc w1 w7 h0 h1, enc_len]; omega
theorem sg_l {n : Int} (hlo : -1099511627776 ≤ n) (hhi : n ≤ 1099511627776) : ((sg 6 n).length : Int) = 6 := by
 have hp : p 5 = 1099511627776 := by decide
 unfold sg signedR
 rw [if_pos ⟨by decide, by decide, by rw [hf6v]; omega, by rw [hf6v]; omega⟩, enc_len]
 rfl
theorem flat_l : ∀ {l : List Int}, (∀ a ∈ l, 0 ≤ a ∧ a ≤ 201) → (l.flatMap (pl 1)).length = l.length
 | [], _ => rfl
 | a :: t, h => by
  have ha := h a (by simp)
  have hp := p1v
  have h1 := pl_l (w := 1) (by decide) (by decide) ha.1 (by show a < p 1; omega)
  rw [List.flatMap_cons, List.length_append, flat_l (fun b hb => h b (by simp [hb])), List.length_cons]
  omega
theorem agesB_l {l : List Int} (h : agesOk l = true) : ((agesB l).length : Int) = 1 + l.length := by
 obtain ⟨h1, h6, hin⟩ := agesOk_in h
 have hp := p1v
 unfold agesB
 rw [List.length_append, flat_l hin]
 have := pl_l (w := 1) (n := (l.length : Int)) (by decide) (by decide) (by omega) (by show (l.length : Int) < p 1; omega)
 omega
def tailP (f : Fr) : List Int :=
 if f.k = 1 then pl 2 f.wt
 else if f.k = 2 then pl 6 f.cy ++ (pl 2 f.msk ++ agesB f.ag)
 else if f.k = 3 then pl 1 f.lk ++ (pl 1 (bitI f.fl) ++ (pl 6 f.cy ++ sg 6 f.of_))
 else if f.k = 4 then pl 1 f.lk ++ agesB f.ag
 else pl 1 f.lk ++ (pl 1 f.f1 ++ (pl 1 f.f2 ++ (pl 4 f.sq ++ (pl 1 f.bd.length ++ f.bd))))
theorem enc_split {f : Fr} (hk : 1 ≤ f.k ∧ f.k ≤ 5) : encF f = pl 1 f.k ++ (pl 1 f.p ++ (pl 1 f.n ++ tailP f)) := by
 unfold encF encP tailP
 rcases (show f.k = 1 ∨ f.k = 2 ∨ f.k = 3 ∨ f.k = 4 ∨ f.k = 5 by omega) with k | k | k | k | k <;> rw [k]
 ·rw [if_pos rfl, if_pos rfl]; simp only [List.append_assoc]
 ·rw [if_neg (by decide), if_pos rfl, if_neg (by decide), if_pos rfl]; simp only [List.append_assoc]
 ·rw [if_neg (by decide), if_neg (by decide), if_pos rfl, if_neg (by decide), if_neg (by decide), if_pos rfl]; simp only [List.append_assoc]
 ·rw [if_neg (by decide), if_neg (by decide), if_neg (by decide), if_pos rfl, if_neg (by decide), if_neg (by decide), if_neg (by decide), if_pos rfl]; simp only [List.append_assoc]
 ·rw [if_neg (by decide), if_neg (by decide), if_neg (by decide), if_neg (by decide), if_neg (by decide), if_neg (by decide), if_neg (by decide), if_neg (by decide)]; simp only [List.append_assoc]
theorem fields_back {f : Fr} (h : Ok f) : fieldsF (encF f) ⟨1, 0, 0⟩ f.k = (f, ⟨((encF f).length : Int), 0, 0⟩) ∧ rd (encF f) 0 = f.k ∧ 3 ≤ (encF f).length := by
 obtain ⟨s1, s2, s3, s4, s5⟩ := spare_back h.own
 have hk := h.kind
 have q1 := p1v
 have q2 := p2v
 have q4 := p4v
 have q6 := p6v
 have hsp := enc_split hk
 have hpk : pl 1 f.k = [f.k] := by
  rw [pl_enc (by decide) (by decide) (by omega) (by show f.k < p 1; omega)]
  show [(f.k / p 0) % 256] = [f.k]
  rw [show p 0 = 1 from rfl, Int.ediv_one, Int.emod_eq_of_lt (by omega) (by omega)]
 obtain ⟨x, hx⟩ : ∃ x, encF f = x := ⟨_, rfl⟩
 rw [hx] at hsp ⊢
 have hd1 : x.drop (1 : Int).toNat = pl 1 f.p ++ (pl 1 f.n ++ tailP f) := by rw [hsp, hpk]; rfl
 have hr0 : rd x 0 = f.k := by rw [hsp, hpk]; rfl
 have lp := pl_l (w := 1) (by decide) (by decide) h.p.1 (by show f.p < p 1; have := h.p; omega)
 have ln := pl_l (w := 1) (by decide) (by decide) h.n.1 (by show f.n < p 1; have := h.n; omega)
 obtain ⟨a1, b1, d1⟩ := read_pl (s := ⟨1, 0, 0⟩) (lo := 0) (hi := 5) (by decide) rfl (by decide) (by decide) h.p.1 (by show f.p < p 1; have := h.p; omega) h.p.1 (by have := h.p; omega) hd1
 obtain ⟨a2, b2, d2⟩ := read_pl (s := ⟨2, 0, 0⟩) (lo := 0) (hi := 11) (by decide) rfl (by decide) (by decide) h.n.1 (by show f.n < p 1; have := h.n; omega) h.n.1 (by have := h.n; omega) d1
 have hl : (x.length : Int) = 3 + (tailP f).length := by
  have := congrArg List.length hsp
  rw [hpk] at this
  simp only [List.length_append, List.length_cons, List.length_nil] at this
  omega
 have d3 : x.drop (3 : Int).toNat = tailP f := d2
 refine ⟨?_, hr0, by omega⟩
 unfold fieldsF
 dsimp only
 rw [a1, b1, show (⟨(⟨1, 0, 0⟩ : St).at_ + 1, 0, (⟨1, 0, 0⟩ : St).ea⟩ : St) = ⟨2, 0, 0⟩ from rfl, a2, b2, show (⟨(⟨2, 0, 0⟩ : St).at_ + 1, 0, (⟨2, 0, 0⟩ : St).ea⟩ : St) = ⟨3, 0, 0⟩ from rfl]
 clear hd1 d1 d2 a1 a2 b1 b2 hsp hx
 unfold tailP at d3 hl
 rcases (show f.k = 1 ∨ f.k = 2 ∨ f.k = 3 ∨ f.k = 4 ∨ f.k = 5 by omega) with k | k | k | k | k
 ·rw [if_pos k] at d3 hl ⊢
  have l1 := pl_l (w := 2) (n := f.wt) (by decide) (by decide) h.wt.1 (by show f.wt < p 2; have := h.wt; omega)
  rw [← List.append_nil (pl 2 f.wt)] at d3
  obtain ⟨a, b, d⟩ := read_pl (s := ⟨3, 0, 0⟩) (lo := 0) (hi := 60000) (by decide) rfl (by decide) (by decide) h.wt.1 (by show f.wt < p 2; have := h.wt; omega) h.wt.1 h.wt.2 d3
  rw [a, b, show (⟨(⟨3, 0, 0⟩ : St).at_ + 2, 0, (⟨3, 0, 0⟩ : St).ea⟩ : St) = ⟨(x.length : Int), 0, 0⟩ by show (⟨3 + 2, 0, 0⟩ : St) = _; congr 1; omega, ← s1 k]
 ·rw [if_neg (by omega), if_pos k] at d3 hl
  have l1 := pl_l (w := 6) (n := f.cy) (by decide) (by decide) h.cy.1 (by show f.cy < p 6; have := h.cy; omega)
  have l2 := pl_l (w := 2) (n := f.msk) (by decide) (by decide) h.msk.1 (by show f.msk < p 2; have := h.msk; omega)
  have l3 := agesB_l (h.ag (.inl k))
  simp only [List.length_append] at hl
  obtain ⟨a, b, d⟩ := read_pl (s := ⟨3, 0, 0⟩) (lo := 0) (hi := 1099511627776) (by decide) rfl (by decide) (by decide) h.cy.1 (by show f.cy < p 6; have := h.cy; omega) h.cy.1 h.cy.2 d3
  obtain ⟨a', b', d'⟩ := read_pl (s := ⟨9, 0, 0⟩) (lo := 0) (hi := 4095) (by decide) rfl (by decide) (by decide) h.msk.1 (by show f.msk < p 2; have := h.msk; omega) h.msk.1 (by have := h.msk; omega) d
  rw [← List.append_nil (agesB f.ag)] at d'
  obtain ⟨c, d''⟩ := read_ages (s := ⟨11, 0, 0⟩) (by decide) rfl (h.ag (.inl k)) d'
  rw [if_neg (by omega), if_pos k, a, b, show (⟨(⟨3, 0, 0⟩ : St).at_ + 6, 0, (⟨3, 0, 0⟩ : St).ea⟩ : St) = ⟨9, 0, 0⟩ from rfl, a', b', show (⟨(⟨9, 0, 0⟩ : St).at_ + 2, 0, (⟨9, 0, 0⟩ : St).ea⟩ : St) = ⟨11, 0, 0⟩ from rfl, c]
  dsimp only
  rw [show (11 + 1 + (f.ag.length : Int)) = (x.length : Int) by omega, ← s2 k]
 ·rw [if_neg (by omega), if_neg (by omega), if_pos k] at d3 hl
  have hb : 0 ≤ bitI f.fl ∧ bitI f.fl ≤ 1 := by unfold bitI; split <;> omega
  have l1 := pl_l (w := 1) (n := f.lk) (by decide) (by decide) h.lk.1 (by show f.lk < p 1; have := h.lk; omega)
  have l2 := pl_l (w := 1) (n := bitI f.fl) (by decide) (by decide) hb.1 (by show bitI f.fl < p 1; omega)
  have l3 := pl_l (w := 6) (n := f.cy) (by decide) (by decide) h.cy.1 (by show f.cy < p 6; have := h.cy; omega)
  have l4 := sg_l h.of_.1 h.of_.2
  simp only [List.length_append] at hl
  obtain ⟨a, b, d⟩ := read_pl (s := ⟨3, 0, 0⟩) (lo := 0) (hi := 9) (by decide) rfl (by decide) (by decide) h.lk.1 (by show f.lk < p 1; have := h.lk; omega) h.lk.1 (by have := h.lk; omega) d3
  obtain ⟨a', b', d'⟩ := read_pl (s := ⟨4, 0, 0⟩) (lo := 0) (hi := 1) (by decide) rfl (by decide) (by decide) hb.1 (by show bitI f.fl < p 1; omega) hb.1 hb.2 d
  obtain ⟨a3, b3, d4⟩ := read_pl (s := ⟨5, 0, 0⟩) (lo := 0) (hi := 1099511627776) (by decide) rfl (by decide) (by decide) h.cy.1 (by show f.cy < p 6; have := h.cy; omega) h.cy.1 h.cy.2 d'
  rw [← List.append_nil (sg 6 f.of_)] at d4
  obtain ⟨a5, b5, d5⟩ := read_sg (s := ⟨11, 0, 0⟩) (by decide) rfl h.of_.1 h.of_.2 d4
  have hfl : (bitI f.fl == 1) = f.fl := by cases f.fl <;> rfl
  rw [if_neg (by omega), if_neg (by omega), if_pos k, a, b, show (⟨(⟨3, 0, 0⟩ : St).at_ + 1, 0, (⟨3, 0, 0⟩ : St).ea⟩ : St) = ⟨4, 0, 0⟩ from rfl, a', b', show (⟨(⟨4, 0, 0⟩ : St).at_ + 1, 0, (⟨4, 0, 0⟩ : St).ea⟩ : St) = ⟨5, 0, 0⟩ from rfl, a3, b3, show (⟨(⟨5, 0, 0⟩ : St).at_ + 6, 0, (⟨5, 0, 0⟩ : St).ea⟩ : St) = ⟨11, 0, 0⟩ from rfl, a5, b5, hfl, show (⟨(⟨11, 0, 0⟩ : St).at_ + 6, 0, (⟨11, 0, 0⟩ : St).ea⟩ : St) = ⟨(x.length : Int), 0, 0⟩ by show (⟨11 + 6, 0, 0⟩ : St) = _; congr 1; omega, ← s3 k]
 ·rw [if_neg (by omega), if_neg (by omega), if_neg (by omega), if_pos k] at d3 hl
  have l1 := pl_l (w := 1) (n := f.lk) (by decide) (by decide) h.lk.1 (by show f.lk < p 1; have := h.lk; omega)
  have l3 := agesB_l (h.ag (.inr k))
  simp only [List.length_append] at hl
  obtain ⟨a, b, d⟩ := read_pl (s := ⟨3, 0, 0⟩) (lo := 0) (hi := 9) (by decide) rfl (by decide) (by decide) h.lk.1 (by show f.lk < p 1; have := h.lk; omega) h.lk.1 (by have := h.lk; omega) d3
  rw [← List.append_nil (agesB f.ag)] at d
  obtain ⟨c, d''⟩ := read_ages (s := ⟨4, 0, 0⟩) (by decide) rfl (h.ag (.inr k)) d
  rw [if_neg (by omega), if_neg (by omega), if_neg (by omega), if_pos k, a, b, show (⟨(⟨3, 0, 0⟩ : St).at_ + 1, 0, (⟨3, 0, 0⟩ : St).ea⟩ : St) = ⟨4, 0, 0⟩ from rfl, c]
  dsimp only
  rw [show (4 + 1 + (f.ag.length : Int)) = (x.length : Int) by omega, ← s4 k]
 ·rw [if_neg (by omega), if_neg (by omega), if_neg (by omega), if_neg (by omega)] at d3 hl
  have l1 := pl_l (w := 1) (n := f.lk) (by decide) (by decide) h.lk.1 (by show f.lk < p 1; have := h.lk; omega)
  have l2 := pl_l (w := 1) (n := f.f1) (by decide) (by decide) h.f1.1 (by show f.f1 < p 1; have := h.f1; omega)
  have l3 := pl_l (w := 1) (n := f.f2) (by decide) (by decide) h.f2.1 (by show f.f2 < p 1; have := h.f2; omega)
  have hsq := h.sq k
  have l4 := pl_l (w := 4) (n := f.sq) (by decide) (by decide) (by omega) (by show f.sq < p 4; omega)
  have hbd := h.bd
  have l5 := pl_l (w := 1) (n := (f.bd.length : Int)) (by decide) (by decide) (by omega) (by show (f.bd.length : Int) < p 1; omega)
  simp only [List.length_append] at hl
  obtain ⟨a, b, d⟩ := read_pl (s := ⟨3, 0, 0⟩) (lo := 0) (hi := 9) (by decide) rfl (by decide) (by decide) h.lk.1 (by show f.lk < p 1; have := h.lk; omega) h.lk.1 (by have := h.lk; omega) d3
  obtain ⟨a', b', d'⟩ := read_pl (s := ⟨4, 0, 0⟩) (lo := 0) (hi := 5) (by decide) rfl (by decide) (by decide) h.f1.1 (by show f.f1 < p 1; have := h.f1; omega) h.f1.1 (by have := h.f1; omega) d
  obtain ⟨a3, b3, d4⟩ := read_pl (s := ⟨5, 0, 0⟩) (lo := 0) (hi := 5) (by decide) rfl (by decide) (by decide) h.f2.1 (by show f.f2 < p 1; have := h.f2; omega) h.f2.1 (by have := h.f2; omega) d'
  obtain ⟨a5, b5, d5⟩ := read_pl (s := ⟨6, 0, 0⟩) (lo := 1) (hi := 2147483648) (by decide) rfl (by decide) (by decide) (by omega) (by show f.sq < p 4; omega) hsq.1 hsq.2 d4
  obtain ⟨c, d''⟩ := read_body (s := ⟨10, 0, 0⟩) (b := f.bd) (r := []) (by decide) rfl h.bd (by rw [List.append_nil]; exact d5)
  rw [if_neg (by omega), if_neg (by omega), if_neg (by omega), if_neg (by omega), a, b, show (⟨(⟨3, 0, 0⟩ : St).at_ + 1, 0, (⟨3, 0, 0⟩ : St).ea⟩ : St) = ⟨4, 0, 0⟩ from rfl, a', b', show (⟨(⟨4, 0, 0⟩ : St).at_ + 1, 0, (⟨4, 0, 0⟩ : St).ea⟩ : St) = ⟨5, 0, 0⟩ from rfl, a3, b3, show (⟨(⟨5, 0, 0⟩ : St).at_ + 1, 0, (⟨5, 0, 0⟩ : St).ea⟩ : St) = ⟨6, 0, 0⟩ from rfl, a5, b5, show (⟨(⟨6, 0, 0⟩ : St).at_ + 4, 0, (⟨6, 0, 0⟩ : St).ea⟩ : St) = ⟨10, 0, 0⟩ from rfl, c]
  dsimp only
  rw [show (10 + 1 + (f.bd.length : Int)) = (x.length : Int) by omega, ← s5 k]
end Go.Proofs.YtaaifdclojkdmaaGreatDoor.MFr
