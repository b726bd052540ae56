/- Texts of this claim, laid together by a program (wip/g/merge5.py): PuHt. -/
import Derived.Test.YtbefbhghmommhaaDoorZHz20
import Derived.Test.YtbefbhghmommhaaDoorZHz13
import Derived.Test.YtbefbhghmommhaaDoorZHz12
set_option linter.unusedVariables false
set_option linter.unusedSimpArgs false
namespace Go.Proofs.YtbefbhghmommhaaDoor.MWo
open Go.RowKit Go.Proofs.YtbefbhghmommhaaDoorW.PrintWords Go.Proofs.YtbefbhghmommhaaDoorW.PrintLast Go.Proofs.YtbefbhghmommhaaDoorW.PrintMore
open Go.Proofs.YtbefbhghmommhaaDoor.Evl
open Hops (at_ far Told Whole)
theorem way_trans {E : List (Nat × Nat)} {a b : Nat} : ∀ {k c i : Nat}, Hops.Way E a i b → Hops.Way E b k c → ∃ m, Hops.Way E a m c
 | 0, c, i, h, g => ⟨i, by rw [← show b = c from g]; exact h⟩
 | k + 1, c, i, h, ⟨m, hm, he⟩ => by
  obtain ⟨q, hq⟩ := way_trans h hm
  exact ⟨q + 1, m, hq, he⟩
structure Ok (P : List S43) (L : List S39) : Prop where
 n1 : 1 ≤ P.length
 n6 : P.length ≤ 6
 l10 : L.length ≤ 10
 inr : InR P.length L
 apart : ∀ i : Int, 0 ≤ i → i < L.length → (rd_T39 L i).f0 ≠ (rd_T39 L i).f1
 near : ∀ x, x ∈ far (ends L) P.length 0 → 0 ≤ x
theorem ok_of {P : List S43} {L : List S39} (h : netsB P L = true) : Ok P L := by
 have hn := (netsB_iff P L).1 h
 refine ⟨hn.1.1, hn.1.2.1, hn.2.1.1, links_in hn.2.1, fun i h0 h1 => ?_, hn.2.2⟩
 have := hn.2.1.2 i h0 h1
 unfold linkC at this
 simp only [Bool.and_eq_true, Bool.not_eq_true', decide_eq_false_iff_not] at this
 have := this.2.2.1
 omega
section
variable {P : List S43} {L : List S39}
theorem at_mem {d : List Int} {v : Nat} (hv : v < d.length) : at_ d v ∈ d := by
 have e : at_ d v = d[v] := by simp [at_, List.getD_eq_getElem?_getD, hv]
 rw [e]; exact List.getElem_mem hv
theorem conn (h : Ok P L) {b v : Nat} (hb : b < P.length) (hv : v < P.length) : 0 ≤ at_ (far (ends L) P.length b) v := by
 have hE := ends_in h.inr
 have w0 : ∀ u, u < P.length → ∃ k, Hops.Way (ends L) 0 k u := by
  intro u hu
  have hl : u < (far (ends L) P.length 0).length := by rw [Hops.far_len]; exact hu
  obtain ⟨k, hk⟩ := Int.eq_ofNat_of_zero_le (h.near _ (at_mem hl))
  exact ⟨k, ((Hops.far_told (a := 0) hE u hl).1 k hk).2.1⟩
 obtain ⟨i, hi⟩ := w0 b hb
 obtain ⟨j, hj⟩ := w0 v hv
 obtain ⟨m, hm⟩ := way_trans (Hops.way_back (fun e he => ends_back e he) hi) hj
 have hl : v < (far (ends L) P.length b).length := by rw [Hops.far_len]; exact hv
 by_cases c : at_ (far (ends L) P.length b) v < 0
 ·exact absurd hm (Hops.far_whole hE hb v hl c m)
 ·omega
theorem sym (h : Ok P L) {a b : Nat} (ha : a < P.length) (hb : b < P.length) : at_ (far (ends L) P.length a) b = at_ (far (ends L) P.length b) a := by
 have hE := ends_in h.inr
 exact Hops.told_back (fun e he => ends_back e he) (Hops.far_told hE) (Hops.far_told hE) (Hops.far_whole hE ha) (Hops.far_whole hE hb) (by rw [Hops.far_len]; exact ha) (by rw [Hops.far_len]; exact hb) (Hops.far_at_low _ _ _ _) (Hops.far_at_low _ _ _ _)
theorem self0 (h : Ok P L) {b : Nat} (hb : b < P.length) : at_ (far (ends L) P.length b) b = 0 := by
 have hE := ends_in h.inr
 have hl : b < (far (ends L) P.length b).length := by rw [Hops.far_len]; exact hb
 obtain ⟨k, hk⟩ := Int.eq_ofNat_of_zero_le (conn h hb hb)
 have ht := (Hops.far_told (a := b) hE b hl).1 k hk
 cases k with
 | zero => simpa using hk
 | succ k => exact absurd (show Hops.Way (ends L) b 0 b from rfl) (ht.2.2 0 (by omega))
theorem rd_far {a : Int} {b : Nat} (h0 : 0 ≤ a) (h1 : a < P.length) : rd (far (ends L) P.length b) a = at_ (far (ends L) P.length b) a.toNat := rd_at h0 (by rw [Hops.far_len]; exact h1)
theorem acr_in (h : Ok P L) {a i : Int} (h0 : 0 ≤ i) (h1 : i < L.length) : -1 ≤ acr (rd_T39 L i) a ∧ acr (rd_T39 L i) a < P.length := by
 have hh := h.inr i h0 h1
 unfold acr
 split
 ·omega
 ·split
  ·omega
  ·have := h.n1; omega
theorem findI_spec {p : S39 → Bool} {l : List S39} (h : 0 ≤ findI p l) : findI p l < l.length ∧ p (rd_T39 l (findI p l)) = true := by
 unfold findI at h ⊢
 cases hq : l.findIdx? p with
 | none => rw [hq] at h; exact absurd h (by decide)
 | some i =>
  rw [List.findIdx?_eq_some_iff_getElem] at hq
  obtain ⟨hi, hp, _⟩ := hq
  refine ⟨by show (i : Int) < _; omega, ?_⟩
  show p (rd_T39 l (i : Int)) = true
  have e : rd_T39 l (i : Int) = l[i] := by simp [rd_T39, List.getD_eq_getElem?_getD, hi]
  rw [e]; exact hp
theorem step (h : Ok P L) {a b : Int} (a0 : 0 ≤ a) (a1 : a < P.length) (b0 : 0 ≤ b) (b1 : b < P.length) (hne : a ≠ b) :
  0 ≤ findI (nearer (far (ends L) P.length b.toNat) a) L := by
 have hE := ends_in h.inr
 have hb : b.toNat < P.length := by omega
 have ha : a.toNat < P.length := by omega
 have hl : a.toNat < (far (ends L) P.length b.toNat).length := by rw [Hops.far_len]; exact ha
 have hany : L.any (nearer (far (ends L) P.length b.toNat) a) = true := by
  obtain ⟨k, hk⟩ := Int.eq_ofNat_of_zero_le (conn h hb ha)
  have ht := (Hops.far_told (a := b.toNat) hE a.toNat hl).1 k hk
  cases k with
  | zero => exact absurd (show b.toNat = a.toNat from ht.2.1) (by omega)
  | succ k =>
   obtain ⟨m, hm, he⟩ := ht.2.1
   have hml := (hE _ he).1
   dsimp only at hml
   have hml' : m < (far (ends L) P.length b.toNat).length := by rw [Hops.far_len]; exact hml
   obtain ⟨q, hq⟩ := Int.eq_ofNat_of_zero_le (conn h hb hml)
   have hqk : q ≤ k := by
    have hmt := (Hops.far_told (a := b.toNat) hE m hml').1 q hq
    by_cases c : k < q
    ·exact absurd hm (hmt.2.2 k c)
    ·omega
   obtain ⟨l, hlm, hel⟩ := List.mem_flatMap.1 he
   rw [List.any_eq_true]
   refine ⟨l, hlm, ?_⟩
   obtain ⟨i, hi, rfl⟩ := List.getElem_of_mem hlm
   have e1 : rd_T39 L (i : Int) = L[i] := by simp [rd_T39, List.getD_eq_getElem?_getD, hi]
   have hin := h.inr i (by omega) (by omega)
   have hap := h.apart i (by omega) (by omega)
   rw [e1] at hin hap
   have hacr : acr L[i] a = (m : Int) := by
    unfold lends at hel
    simp only [List.mem_cons, List.not_mem_nil, or_false, Prod.mk.injEq] at hel
    unfold acr
    rcases hel with ⟨e2, e3⟩ | ⟨e2, e3⟩
    ·rw [if_neg (by omega), if_pos (by omega)]; omega
    ·rw [if_pos (by omega)]; omega
   unfold nearer
   rw [hacr, rd_far (b := b.toNat) (by omega) (by omega), rd_far (b := b.toNat) a0 a1, Bool.and_eq_true]
   refine ⟨dT (by omega), dT ?_⟩
   rw [Int.toNat_natCast, hq, hk]
   omega
 have := findI_any (nearer (far (ends L) P.length b.toNat) a) L
 rw [hany] at this
 exact oT this
theorem stay (h : Ok P L) {a : Int} (a0 : 0 ≤ a) (a1 : a < P.length) : findI (nearer (far (ends L) P.length a.toNat) a) L = -1 := by
 refine findI_miss (fun j hj => ?_)
 unfold nearer
 have hin := acr_in h (a := a) (i := (j : Int)) (by omega) (by omega)
 by_cases c : 0 ≤ acr (rd_T39 L (j : Int)) a
 ·rw [dT c, Bool.true_and, decide_eq_false_iff_not, rd_far (b := a.toNat) c hin.2, rd_far (b := a.toNat) a0 a1, self0 h (by omega)]
  have := conn h (b := a.toNat) (v := (acr (rd_T39 L (j : Int)) a).toNat) (by omega) (by omega)
  omega
 ·rw [dF c, Bool.false_and]
theorem across_eq (x : S39) (a : Int) : hops_across.f x.f0 x.f1 x.f2.f0 x.f2.f1 x.f3.f0 x.f3.f1 a = some (acr x a) := by
 unfold hops_across.f acr
 by_cases c : a = x.f0
 ·rw [if_pos c, if_pos c]
 ·rw [if_neg c, if_neg c]
  by_cases c2 : a = x.f1
  ·rw [if_pos c2, if_pos c2]
  ·rw [if_neg c2, if_neg c2]
theorem other_eq (x : S39) (a : Int) : dr5_other.f x.f0 x.f1 x.f2.f0 x.f2.f1 x.f3.f0 x.f3.f1 a = some (acr x a) := by
 unfold dr5_other.f acr
 by_cases c : a = x.f0
 ·rw [if_pos c.symm, if_pos c]
 ·rw [if_neg (fun z => c z.symm), if_neg c]
  by_cases c2 : a = x.f1
  ·rw [if_pos c2.symm, if_pos c2]
  ·rw [if_neg (fun z => c2 z.symm), if_neg c2]
def bothB (P : List S43) (L : List S39) (a b : Int) : Bool := netsB P L && ((decide (0 ≤ a) && decide (a < (P.length : Int))) && (decide (0 ≤ b) && decide (b < (P.length : Int))))
theorem both_iff (a b : Int) : bothB P L a b = true ↔ netsB P L = true ∧ (0 ≤ a ∧ a < P.length) ∧ (0 ≤ b ∧ b < P.length) := by
 unfold bothB
 simp only [Bool.and_eq_true, decide_eq_true_eq]
theorem right_eq (hP : P.length ≤ 1000) (hL : L.length ≤ 1000) (a2 a3 a4 a5 a6 a7 a8 a9 a10 a11 a12 : Int) (a b : Int) : hops_right.f P L a2 a3 a4 a5 a6 a7 a8 a9 a10 a11 a12 a b = some (bothB P L a b) := by
 unfold hops_right.f plan_Right.f
 rw [if_pos ⟨hP, hL⟩, Option.bind_some]
 unfold bothB
 cases netsB P L with
 | false => rfl
 | true =>
  rw [if_pos rfl, Bool.true_and]
  by_cases c1 : a ≥ 0
  ·rw [if_pos c1, dT (show 0 ≤ a from c1), Bool.true_and]
   by_cases c2 : a < (P.length : Int)
   ·rw [if_pos c2, dT c2, Bool.true_and]
    by_cases c3 : b ≥ 0
    ·rw [if_pos c3, dT (show 0 ≤ b from c3), Bool.true_and]
    ·rw [if_neg c3, dF (show ¬ 0 ≤ b from c3), Bool.false_and]
   ·rw [if_neg c2, dF c2, Bool.false_and]
  ·rw [if_neg c1, dF (show ¬ 0 ≤ a from c1), Bool.false_and, Bool.false_and]
theorem good_eq (hP : P.length ≤ 1000) (hL : L.length ≤ 1000) (a2 a3 a4 a5 a6 a7 a8 a9 a10 a11 a12 : Int) (a : Int) : dr5_Good.f P L a2 a3 a4 a5 a6 a7 a8 a9 a10 a11 a12 a = some (netsB P L && (decide (0 ≤ a) && decide (a < (P.length : Int)))) := by
 unfold dr5_Good.f
 rw [if_pos ⟨hP, hL⟩]
def distV (P : List S43) (L : List S39) (a b : Int) : Int := if bothB P L a b = true then at_ (far (ends L) P.length b.toNat) a.toNat else -1
theorem dist_ev (hP : P.length ≤ 1000) (hL : L.length ≤ 1000) (a2 a3 a4 a5 a6 a7 a8 a9 a10 a11 a12 : Int) (a b : Int) : Evl (fun k => hops_Dist.f k P L a2 a3 a4 a5 a6 a7 a8 a9 a10 a11 a12 a b) (distV P L a b) := by
 unfold hops_Dist.f distV
 refine Evl.bind (a := bothB P L a b) (Evl.now fun _ => right_eq hP hL a2 a3 a4 a5 a6 a7 a8 a9 a10 a11 a12 a b) ?_
 by_cases c : bothB P L a b = true
 ·simp only [if_pos c]
  obtain ⟨hn, ⟨ha0, ha1⟩, ⟨hb0, hb1⟩⟩ := (both_iff a b).1 c
  have ok := ok_of hn
  refine Evl.bind (dists_ev P L a2 a3 a4 a5 a6 a7 a8 a9 a10 a11 a12 b ok.n6 hL ok.inr hb0 hb1) (Evl.now fun _ => ?_)
  rw [if_pos ha0, if_pos (by rw [Hops.far_len]; exact ha1), rd_far ha0 ha1]
 ·simp only [if_neg c]
  exact Evl.now fun _ => rfl
theorem rdist_ev (hP : P.length ≤ 1000) (hL : L.length ≤ 1000) (a2 a3 a4 a5 a6 a7 a8 a9 a10 a11 a12 : Int) (a b : Int) : Evl (fun k => dr5_Dist.f k P L a2 a3 a4 a5 a6 a7 a8 a9 a10 a11 a12 a b) (distV P L a b) := by
 unfold dr5_Dist.f distV
 refine Evl.bind (Evl.now fun _ => good_eq hP hL a2 a3 a4 a5 a6 a7 a8 a9 a10 a11 a12 a) ?_
 by_cases c : bothB P L a b = true
 ·obtain ⟨hn, ⟨ha0, ha1⟩, ⟨hb0, hb1⟩⟩ := (both_iff a b).1 c
  have ok := ok_of hn
  simp only [if_pos c]
  rw [hn, dT ha0, dT ha1]
  simp only [Bool.and_self, if_true]
  refine Evl.bind (Evl.now fun _ => good_eq hP hL a2 a3 a4 a5 a6 a7 a8 a9 a10 a11 a12 b) ?_
  rw [hn, dT hb0, dT hb1]
  simp only [Bool.and_self, if_true]
  refine Evl.bind (rdists_ev P L a2 a3 a4 a5 a6 a7 a8 a9 a10 a11 a12 a ok.n6 hL ok.inr ha0 ha1) (Evl.now fun _ => ?_)
  rw [if_pos hb0, if_pos (by rw [Hops.far_len]; exact hb1), rd_far hb0 hb1, sym ok (by omega) (by omega)]
 ·simp only [if_neg c]
  obtain ⟨s, hs⟩ : ∃ s, (netsB P L && (decide (0 ≤ a) && decide (a < (P.length : Int)))) = s := ⟨_, rfl⟩
  rw [hs]
  cases s with
  | false => exact Evl.now fun _ => rfl
  | true =>
   simp only [if_true]
   refine Evl.bind (Evl.now fun _ => good_eq hP hL a2 a3 a4 a5 a6 a7 a8 a9 a10 a11 a12 b) ?_
   have hf : (netsB P L && (decide (0 ≤ b) && decide (b < (P.length : Int)))) = false := by
    rw [Bool.and_eq_true] at hs
    rw [hs.1, Bool.true_and]
    cases hq : (decide (0 ≤ b) && decide (b < (P.length : Int))) with
    | false => rfl
    | true => exact absurd (show bothB P L a b = true by unfold bothB; rw [hs.1, hs.2, hq]; rfl) c
   rw [hf]
   exact Evl.now fun _ => rfl
def nextV (P : List S43) (L : List S39) (a b : Int) : Int := if bothB P L a b = true then findI (nearer (far (ends L) P.length b.toNat) a) L else -1
theorem over_eq (a2 a3 a4 a5 a6 a7 a8 a9 a10 a11 a12 : Int) {a b : Int} (c : bothB P L a b = true) : hops_Over.f P L a2 a3 a4 a5 a6 a7 a8 a9 a10 a11 a12 a b = some (findI (nearer (far (ends L) P.length b.toNat) a) L) := by
 unfold hops_Over.f
 rw [if_pos ((both_iff a b).1 c)]
theorem next_eq (hP : P.length ≤ 1000) (hL : L.length ≤ 1000) (a2 a3 a4 a5 a6 a7 a8 a9 a10 a11 a12 : Int) (a b : Int) : hops_Next.f P L a2 a3 a4 a5 a6 a7 a8 a9 a10 a11 a12 a b = some (nextV P L a b) := by
 unfold hops_Next.f nextV
 rw [right_eq hP hL a2 a3 a4 a5 a6 a7 a8 a9 a10 a11 a12 a b, Option.bind_some]
 by_cases c : bothB P L a b = true
 ·rw [if_pos c, if_pos c, over_eq a2 a3 a4 a5 a6 a7 a8 a9 a10 a11 a12 c]
  rfl
 ·rw [if_neg c, if_neg c]
theorem rnext_go (hL : L.length ≤ 1000) (a2 a3 a4 a5 a6 a7 a8 a9 a10 a11 a12 : Int) {a : Int} {d : List Int} (ok : Ok P L) (hd : d.length = P.length) (a0 : 0 ≤ a) (a1 : a < P.length) : ∀ (j i : Nat), i + j = L.length → (∀ q : Nat, q < i → nearer d a (rd_T39 L (q : Int)) = false) →
  Evl (fun k => dr5_Next.l0 k a d (i : Int) P L a2 a3 a4 a5 a6 a7 a8 a9 a10 a11 a12) (findI (nearer d a) L)
 | 0, i, hi, h => by
  refine Evl.stop (fun k => ?_)
  rw [dr5_Next.l0, if_neg (by omega), findI_miss (fun q hq => h q (by omega))]
 | j + 1, i, hi, h => by
  have hw : wrap64 ((i : Int) + 1) = (i : Int) + 1 := by have := ok.l10; unfold wrap64; omega
  have hin := acr_in ok (a := a) (i := (i : Int)) (by omega) (by omega)
  have goon : nearer d a (rd_T39 L (i : Int)) = false → Evl (fun k => dr5_Next.l0 k a d ((i : Int) + 1) P L a2 a3 a4 a5 a6 a7 a8 a9 a10 a11 a12) (findI (nearer d a) L) := fun hf => by
   have := rnext_go hL a2 a3 a4 a5 a6 a7 a8 a9 a10 a11 a12 ok hd a0 a1 j (i + 1) (by omega) (fun q hq => by
    by_cases e : q = i
    ·subst e; exact hf
    ·exact h q (by omega))
   exact Evl.congr (fun k => by rfl) this
  by_cases c : 0 ≤ acr (rd_T39 L (i : Int)) a
  ·by_cases c2 : rd d (acr (rd_T39 L (i : Int)) a) < rd d a
   ·have ht : nearer d a (rd_T39 L (i : Int)) = true := by unfold nearer; rw [dT c, dT c2]; rfl
    refine Evl.stop (fun k => ?_)
    rw [dr5_Next.l0, if_pos (by omega), if_pos (by omega), other_eq, Option.bind_some, if_pos c, if_pos c, if_pos (by rw [hd]; exact hin.2), if_pos a0, if_pos (by rw [hd]; exact a1), if_pos c2, findI_hit (by omega) ht h]
   ·refine Evl.step (fun k => ?_) (goon (by unfold nearer; rw [dF c2, Bool.and_false]))
    rw [dr5_Next.l0, if_pos (by omega), if_pos (by omega), other_eq, Option.bind_some, if_pos c, if_pos c, if_pos (by rw [hd]; exact hin.2), if_pos a0, if_pos (by rw [hd]; exact a1), if_neg c2, hw]
  ·refine Evl.step (fun k => ?_) (goon (by unfold nearer; rw [dF c, Bool.false_and]))
   rw [dr5_Next.l0, if_pos (by omega), if_pos (by omega), other_eq, Option.bind_some, if_neg c, hw]
theorem rnext_ev (hP : P.length ≤ 1000) (hL : L.length ≤ 1000) (a2 a3 a4 a5 a6 a7 a8 a9 a10 a11 a12 : Int) (a b : Int) : Evl (fun k => dr5_Next.f k P L a2 a3 a4 a5 a6 a7 a8 a9 a10 a11 a12 a b) (nextV P L a b) := by
 unfold dr5_Next.f nextV
 refine Evl.bind (Evl.now fun _ => good_eq hP hL a2 a3 a4 a5 a6 a7 a8 a9 a10 a11 a12 a) ?_
 by_cases c : bothB P L a b = true
 ·obtain ⟨hn, ⟨ha0, ha1⟩, ⟨hb0, hb1⟩⟩ := (both_iff a b).1 c
  have ok := ok_of hn
  simp only [if_pos c]
  rw [hn, dT ha0, dT ha1]
  simp only [Bool.and_self, if_true]
  refine Evl.bind (Evl.now fun _ => good_eq hP hL a2 a3 a4 a5 a6 a7 a8 a9 a10 a11 a12 b) ?_
  rw [hn, dT hb0, dT hb1]
  simp only [Bool.and_self, if_true]
  by_cases e : a = b
  ·subst e
   refine Evl.stop (fun k => ?_)
   rw [dr5_Next.j0, if_pos (beq_self_eq_true a), stay ok ha0 ha1]
  ·refine Evl.step (h := fun k => (dr5_dists.f k P L a2 a3 a4 a5 a6 a7 a8 a9 a10 a11 a12 b).bind fun t => dr5_Next.l0 k a t 0 P L a2 a3 a4 a5 a6 a7 a8 a9 a10 a11 a12) (fun k => ?_) ?_
   ·rw [dr5_Next.j0, if_neg (by simpa using e)]
   ·refine Evl.bind (rdists_ev P L a2 a3 a4 a5 a6 a7 a8 a9 a10 a11 a12 b ok.n6 hL ok.inr hb0 hb1) ?_
    exact rnext_go hL a2 a3 a4 a5 a6 a7 a8 a9 a10 a11 a12 ok (Hops.far_len _ _ _) ha0 ha1 L.length 0 (by omega) (fun q hq => absurd hq (by omega))
 ·simp only [if_neg c]
  have st : Evl (fun k => dr5_Next.j0 k a b true P L a2 a3 a4 a5 a6 a7 a8 a9 a10 a11 a12) (-1) := Evl.stop (fun k => by rw [dr5_Next.j0, if_pos rfl])
  obtain ⟨s, hs⟩ : ∃ s, (netsB P L && (decide (0 ≤ a) && decide (a < (P.length : Int)))) = s := ⟨_, rfl⟩
  rw [hs]
  cases s with
  | false => exact Evl.congr (fun k => by rw [if_neg (by decide)]) st
  | true =>
   simp only [if_true]
   refine Evl.bind (Evl.now fun _ => good_eq hP hL a2 a3 a4 a5 a6 a7 a8 a9 a10 a11 a12 b) ?_
   have hf : (netsB P L && (decide (0 ≤ b) && decide (b < (P.length : Int)))) = false := by
    rw [Bool.and_eq_true] at hs
    rw [hs.1, Bool.true_and]
    cases hq : (decide (0 ≤ b) && decide (b < (P.length : Int))) with
    | false => rfl
    | true => exact absurd (show bothB P L a b = true by unfold bothB; rw [hs.1, hs.2, hq]; rfl) c
   rw [hf]
   exact Evl.congr (fun k => by rw [if_neg (by decide)]) st
theorem ways (hP : P.length ≤ 1000) (hL : L.length ≤ 1000) (a2 a3 a4 a5 a6 a7 a8 a9 a10 a11 a12 : Int) {b : Int} (hn : netsB P L = true) (b0 : 0 ≤ b) (b1 : b < P.length) : ∀ (m : Nat) (a : Int) (o : List Int), 0 ≤ a → a < P.length → rd (far (ends L) P.length b.toNat) a ≤ m → o.length + m ≤ 1000 →
  ∃ r : List Int, r.length ≤ 1000 ∧ Evl (fun k => hops_Way.l0 k a b o P L a2 a3 a4 a5 a6 a7 a8 a9 a10 a11 a12) r ∧ Evl (fun k => dr5_Way.l0 k a b o P L a2 a3 a4 a5 a6 a7 a8 a9 a10 a11 a12) r := by
 have ok := ok_of hn
 intro m
 induction m with
 | zero =>
  intro a o a0 a1 hm ho
  have e : a = b := by
   by_cases e : a = b
   ·exact e
   ·have h0 := step ok a0 a1 b0 b1 e
    obtain ⟨h1, h2⟩ := findI_spec h0
    generalize findI (nearer (far (ends L) P.length b.toNat) a) L = i at h0 h1 h2
    unfold nearer at h2
    rw [Bool.and_eq_true] at h2
    have h3 := oT h2.1
    have h4 := oT h2.2
    have h5 := acr_in ok (a := a) h0 h1
    rw [rd_far (b := b.toNat) h3 h5.2] at h4
    have := conn ok (b := b.toNat) (v := (acr (rd_T39 L i) a).toNat) (by omega) (by omega)
    omega
  subst e
  exact ⟨o, by omega, Evl.stop (fun k => by rw [hops_Way.l0, if_pos rfl]), Evl.stop (fun k => by rw [dr5_Way.l0, if_pos rfl])⟩
 | succ m ih =>
  intro a o a0 a1 hm ho
  by_cases e : a = b
  ·subst e
   exact ⟨o, by omega, Evl.stop (fun k => by rw [hops_Way.l0, if_pos rfl]), Evl.stop (fun k => by rw [dr5_Way.l0, if_pos rfl])⟩
  ·have hc : bothB P L a b = true := (both_iff a b).2 ⟨hn, ⟨a0, a1⟩, ⟨b0, b1⟩⟩
   have h0 := step ok a0 a1 b0 b1 e
   obtain ⟨h1, h2⟩ := findI_spec h0
   have hov := over_eq a2 a3 a4 a5 a6 a7 a8 a9 a10 a11 a12 hc
   have hnx : nextV P L a b = findI (nearer (far (ends L) P.length b.toNat) a) L := by unfold nextV; rw [if_pos hc]
   have hrn := rnext_ev hP hL a2 a3 a4 a5 a6 a7 a8 a9 a10 a11 a12 a b
   rw [hnx] at hrn
   generalize findI (nearer (far (ends L) P.length b.toNat) a) L = i at h0 h1 h2 hov hrn
   unfold nearer at h2
   rw [Bool.and_eq_true] at h2
   have h3 := oT h2.1
   have h4 := oT h2.2
   have h5 := acr_in ok (a := a) h0 h1
   obtain ⟨r, hr, e1, e2⟩ := ih (acr (rd_T39 L i) a) (o ++ [i]) h3 h5.2 (by omega) (by rw [List.length_append, List.length_singleton]; omega)
   refine ⟨r, hr, ?_, ?_⟩
   ·refine Evl.step (fun k => ?_) e1
    rw [hops_Way.l0, if_neg e, hov, Option.bind_some, if_pos (by omega), if_pos h0, if_pos h1, across_eq, Option.bind_some]
   ·refine Evl.step (h := fun k => (dr5_Next.f k P L a2 a3 a4 a5 a6 a7 a8 a9 a10 a11 a12 a b).bind fun t => if o.length < 17592186044416 then (if 0 ≤ t then (if t < (L.length : Int) then ((dr5_other.f ((rd_T39 L t).f0) ((rd_T39 L t).f1) ((rd_T39 L t).f2.f0) ((rd_T39 L t).f2.f1) ((rd_T39 L t).f3.f0) ((rd_T39 L t).f3.f1) a).bind fun u => dr5_Way.l0 k u b (o ++ [t]) P L a2 a3 a4 a5 a6 a7 a8 a9 a10 a11 a12) else none) else none) else none) (fun k => ?_) ?_
    ·rw [dr5_Way.l0, if_neg e]
    ·refine Evl.bind hrn ?_
     refine Evl.congr (fun k => ?_) e2
     rw [if_pos (by omega), if_pos h0, if_pos h1, other_eq, Option.bind_some]
theorem far_le (hP : P.length ≤ 1000) {a : Int} {b : Nat} (a0 : 0 ≤ a) (a1 : a < P.length) (ok : Ok P L) : rd (far (ends L) P.length b) a ≤ 6 := by
 rw [rd_far a0 a1]
 have hE := ends_in ok.inr
 have hl : a.toNat < (far (ends L) P.length b).length := by rw [Hops.far_len]; omega
 by_cases c : at_ (far (ends L) P.length b) a.toNat < 0
 ·omega
 ·obtain ⟨k, hk⟩ := Int.eq_ofNat_of_zero_le (show 0 ≤ at_ (far (ends L) P.length b) a.toNat by omega)
  have := ((Hops.far_told (a := b) hE a.toNat hl).1 k hk).1
  have := ok.n6
  omega
theorem way_ev (hP : P.length ≤ 1000) (hL : L.length ≤ 1000) (a2 a3 a4 a5 a6 a7 a8 a9 a10 a11 a12 : Int) (a b : Int) : ∃ r : List Int, r.length ≤ 1000 ∧ Evl (fun k => hops_Way.f k P L a2 a3 a4 a5 a6 a7 a8 a9 a10 a11 a12 a b) r ∧ Evl (fun k => dr5_Way.f k P L a2 a3 a4 a5 a6 a7 a8 a9 a10 a11 a12 a b) r := by
 unfold hops_Way.f dr5_Way.f
 by_cases c : bothB P L a b = true
 ·obtain ⟨hn, ⟨ha0, ha1⟩, ⟨hb0, hb1⟩⟩ := (both_iff a b).1 c
  have ok := ok_of hn
  obtain ⟨r, hr, e1, e2⟩ := ways hP hL a2 a3 a4 a5 a6 a7 a8 a9 a10 a11 a12 hn hb0 hb1 6 a [] ha0 ha1 (far_le hP ha0 ha1 ok) (by simp)
  refine ⟨r, hr, ?_, ?_⟩
  ·refine Evl.bind (Evl.now fun _ => right_eq hP hL a2 a3 a4 a5 a6 a7 a8 a9 a10 a11 a12 a b) ?_
   simp only [if_pos c]
   exact e1
  ·refine Evl.bind (Evl.now fun _ => good_eq hP hL a2 a3 a4 a5 a6 a7 a8 a9 a10 a11 a12 a) ?_
   rw [hn, dT ha0, dT ha1]
   simp only [Bool.and_self, if_true]
   refine Evl.bind (Evl.now fun _ => good_eq hP hL a2 a3 a4 a5 a6 a7 a8 a9 a10 a11 a12 b) ?_
   rw [hn, dT hb0, dT hb1]
   simp only [Bool.and_self]
   refine Evl.step (fun k => ?_) e2
   rw [dr5_Way.j0, if_neg (by decide)]
 ·refine ⟨[], by simp, ?_, ?_⟩
  ·refine Evl.bind (Evl.now fun _ => right_eq hP hL a2 a3 a4 a5 a6 a7 a8 a9 a10 a11 a12 a b) ?_
   simp only [if_neg c]
   exact Evl.now fun _ => rfl
  ·refine Evl.bind (Evl.now fun _ => good_eq hP hL a2 a3 a4 a5 a6 a7 a8 a9 a10 a11 a12 a) ?_
   have st : Evl (fun k => dr5_Way.j0 k a b ([] : List Int) true P L a2 a3 a4 a5 a6 a7 a8 a9 a10 a11 a12) ([] : List Int) := Evl.stop (fun k => by rw [dr5_Way.j0, if_pos rfl])
   obtain ⟨s, hs⟩ : ∃ s, (netsB P L && (decide (0 ≤ a) && decide (a < (P.length : Int)))) = s := ⟨_, rfl⟩
   rw [hs]
   cases s with
   | false => exact Evl.congr (fun k => by rw [if_neg (by decide)]) st
   | true =>
    simp only [if_true]
    refine Evl.bind (Evl.now fun _ => good_eq hP hL a2 a3 a4 a5 a6 a7 a8 a9 a10 a11 a12 b) ?_
    have hf : (netsB P L && (decide (0 ≤ b) && decide (b < (P.length : Int)))) = false := by
     rw [Bool.and_eq_true] at hs
     rw [hs.1, Bool.true_and]
     cases hq : (decide (0 ≤ b) && decide (b < (P.length : Int))) with
     | false => rfl
     | true => exact absurd (show bothB P L a b = true by unfold bothB; rw [hs.1, hs.2, hq]; rfl) c
    rw [hf]
    exact st
theorem mx_max (a b : Int) : mx a b = max a b := by unfold mx; omega
theorem fold_max : ∀ (l : List Int) (a b : Int), l.foldl max (max a b) = max a (l.foldl max b)
 | [], a, b => rfl
 | x :: l, a, b => by
  show l.foldl max (max (max a b) x) = max a (l.foldl max (max b x))
  rw [show max (max a b) x = max a (max b x) by omega, fold_max l]
theorem fold_maxOf {l : List Int} (h : 0 < l.length) (m : Int) : l.foldl max m = max m (Lib.maxOf l) := by
 cases l with
 | nil => simp at h
 | cons x l =>
  show l.foldl max (max m x) = max m (l.foldl max (max x x))
  rw [fold_max, Int.max_self]
theorem rwid_inner (a2 a3 a4 a5 a6 a7 a8 a9 a10 a11 a12 : Int) {d : List Int} {x : Int} {R : Int} (hd : d.length ≤ 1000) : ∀ (j i : Nat) (m : Int), i + j = d.length → Evl (fun k => dr5_Width.l0 k ((d.drop i).foldl max m) (wrap64 (x + 1)) P L a2 a3 a4 a5 a6 a7 a8 a9 a10 a11 a12) R →
  Evl (fun k => dr5_Width.l1 k m x d (i : Int) P L a2 a3 a4 a5 a6 a7 a8 a9 a10 a11 a12) R
 | 0, i, m, hi, h => by
  rw [List.drop_of_length_le (by omega)] at h
  refine Evl.step (fun k => ?_) h
  rw [dr5_Width.l1, if_neg (by omega)]
  rfl
 | j + 1, i, m, hi, h => by
  have hw : wrap64 ((i : Int) + 1) = ((i + 1 : Nat) : Int) := by unfold wrap64; omega
  have hlt : i < d.length := by omega
  have e : rd d (i : Int) = d[i] := by simp [rd, List.getD_eq_getElem?_getD, hlt]
  rw [List.drop_eq_getElem_cons hlt] at h
  refine Evl.step (fun k => ?_) (rwid_inner a2 a3 a4 a5 a6 a7 a8 a9 a10 a11 a12 hd j (i + 1) (max m d[i]) (by omega) h)
  rw [dr5_Width.l1, if_pos (by omega), if_pos (by omega), e, mx_max, hw]
theorem widths (hP : P.length ≤ 1000) (hL : L.length ≤ 1000) (a2 a3 a4 a5 a6 a7 a8 a9 a10 a11 a12 : Int) (hn : netsB P L = true) : ∀ (j i : Nat) (m : Int), i + j = P.length → ∃ r : Int, Evl (fun k => hops_Width.l0 k m (P.length : Int) (i : Int) P L a2 a3 a4 a5 a6 a7 a8 a9 a10 a11 a12) r ∧ Evl (fun k => dr5_Width.l0 k m (i : Int) P L a2 a3 a4 a5 a6 a7 a8 a9 a10 a11 a12) r
 | 0, i, m, hi => ⟨m, Evl.stop (fun k => by rw [hops_Width.l0, if_neg (by omega)]), Evl.stop (fun k => by rw [dr5_Width.l0, if_neg (by omega)])⟩
 | j + 1, i, m, hi => by
  have ok := ok_of hn
  have hw : wrap64 ((i : Int) + 1) = ((i + 1 : Nat) : Int) := by have := ok.n6; unfold wrap64; omega
  have hl := Hops.far_len (ends L) P.length i
  have hne : 0 < (far (ends L) P.length i).length := by rw [hl]; have := ok.n1; omega
  obtain ⟨r, e1, e2⟩ := widths hP hL a2 a3 a4 a5 a6 a7 a8 a9 a10 a11 a12 hn j (i + 1) (max m (Lib.maxOf (far (ends L) P.length i))) (by omega)
  refine ⟨r, ?_, ?_⟩
  ·refine Evl.step (h := fun k => (plan_Dists.f k P L a2 a3 a4 a5 a6 a7 a8 a9 a10 a11 a12 (i : Int)).bind fun t => (slices_Max_int_int.f t).bind fun u => hops_Width.l0 k (mx m u) (P.length : Int) (wrap64 ((i : Int) + 1)) P L a2 a3 a4 a5 a6 a7 a8 a9 a10 a11 a12) (fun k => by rw [hops_Width.l0, if_pos (by omega)]) ?_
   have hd := dists_ev P L a2 a3 a4 a5 a6 a7 a8 a9 a10 a11 a12 (i : Int) ok.n6 hL ok.inr (by omega) (by omega)
   rw [Int.toNat_natCast] at hd
   refine Evl.bind hd ?_
   refine Evl.congr (fun k => ?_) e1
   unfold slices_Max_int_int.f
   rw [if_pos ⟨hne, by rw [hl]; omega⟩, Option.bind_some, mx_max, hw]
  ·refine Evl.step (h := fun k => (dr5_dists.f k P L a2 a3 a4 a5 a6 a7 a8 a9 a10 a11 a12 (i : Int)).bind fun t => dr5_Width.l1 k m (i : Int) t 0 P L a2 a3 a4 a5 a6 a7 a8 a9 a10 a11 a12) (fun k => by rw [dr5_Width.l0, if_pos (by omega)]) ?_
   have hd := rdists_ev P L a2 a3 a4 a5 a6 a7 a8 a9 a10 a11 a12 (i : Int) ok.n6 hL ok.inr (by omega) (by omega)
   rw [Int.toNat_natCast] at hd
   refine Evl.bind hd ?_
   refine rwid_inner a2 a3 a4 a5 a6 a7 a8 a9 a10 a11 a12 (by rw [hl]; omega) (far (ends L) P.length i).length 0 m (by omega) ?_
   rw [List.drop_zero, fold_maxOf hne, hw]
   exact e2
theorem width_ev (hP : P.length ≤ 1000) (hL : L.length ≤ 1000) (a2 a3 a4 a5 a6 a7 a8 a9 a10 a11 a12 : Int) : ∃ r : Int, Evl (fun k => hops_Width.f k P L a2 a3 a4 a5 a6 a7 a8 a9 a10 a11 a12) r ∧ Evl (fun k => dr5_Width.f k P L a2 a3 a4 a5 a6 a7 a8 a9 a10 a11 a12) r := by
 unfold hops_Width.f dr5_Width.f
 have hr : plan_Right.f P L a2 a3 a4 a5 a6 a7 a8 a9 a10 a11 a12 = some (netsB P L) := by unfold plan_Right.f; rw [if_pos ⟨hP, hL⟩]
 by_cases c : netsB P L = true
 ·have ok := ok_of c
  obtain ⟨r, e1, e2⟩ := widths hP hL a2 a3 a4 a5 a6 a7 a8 a9 a10 a11 a12 c P.length 0 0 (by omega)
  refine ⟨r, Evl.bind (Evl.now fun _ => hr) ?_, Evl.bind (Evl.now fun _ => good_eq hP hL a2 a3 a4 a5 a6 a7 a8 a9 a10 a11 a12 0) ?_⟩
  ·simp only [if_pos c]
   exact e1
  ·rw [c, dT (Int.le_refl 0), dT (show (0 : Int) < P.length by have := ok.n1; omega)]
   simp only [Bool.and_self, if_true]
   exact e2
 ·refine ⟨-1, Evl.bind (Evl.now fun _ => hr) ?_, Evl.bind (Evl.now fun _ => good_eq hP hL a2 a3 a4 a5 a6 a7 a8 a9 a10 a11 a12 0) ?_⟩
  ·simp only [if_neg c]
   exact Evl.now fun _ => rfl
  ·have c' : netsB P L = false := by simpa using c
   rw [c', Bool.false_and]
   exact Evl.now fun _ => rfl
theorem same_go {l : List Int} (hl : l.length ≤ 1000) : ∀ (j i : Nat), i + j = l.length → Evl (fun k => dr1_SameInts.l0 k l l (i : Int)) true
 | 0, i, hi => Evl.stop (fun k => by rw [dr1_SameInts.l0, if_neg (by omega)])
 | j + 1, i, hi => by
  have hw : wrap64 ((i : Int) + 1) = ((i + 1 : Nat) : Int) := by unfold wrap64; omega
  exact Evl.step (fun k => by rw [dr1_SameInts.l0, if_pos (by omega), if_pos (by omega), if_pos (by omega), if_pos rfl, hw]) (same_go hl j (i + 1) (by omega))
theorem same_ev {l : List Int} (hl : l.length ≤ 1000) : Evl (fun k => dr1_SameInts.f k l l) true := by
 unfold dr1_SameInts.f
 simp only [if_true]
 exact same_go hl l.length 0 (by omega)
theorem tells_short (a2 a3 a4 a5 a6 a7 a8 a9 a10 a11 a12 : Int) (a b : Int) : Evl (fun k => dl6_HopsTells.j0 k a b true P L a2 a3 a4 a5 a6 a7 a8 a9 a10 a11 a12) true := Evl.stop (fun k => by rw [dl6_HopsTells.j0, if_pos rfl]; rfl)
theorem tells_long (hP : P.length ≤ 1000) (hL : L.length ≤ 1000) (a2 a3 a4 a5 a6 a7 a8 a9 a10 a11 a12 : Int) (a b : Int) : Evl (fun k => dl6_HopsTells.j0 k a b false P L a2 a3 a4 a5 a6 a7 a8 a9 a10 a11 a12) true := by
 obtain ⟨r, hr, w1, w2⟩ := way_ev hP hL a2 a3 a4 a5 a6 a7 a8 a9 a10 a11 a12 a b
 obtain ⟨q, v1, v2⟩ := width_ev hP hL a2 a3 a4 a5 a6 a7 a8 a9 a10 a11 a12
 have s1 := same_ev hr
 refine Evl.succ ?_
 simp only [dl6_HopsTells.j0, Bool.false_eq_true, if_false]
 refine Evl.bind (dist_ev hP hL a2 a3 a4 a5 a6 a7 a8 a9 a10 a11 a12 a b) ?_
 refine Evl.bind (rdist_ev hP hL a2 a3 a4 a5 a6 a7 a8 a9 a10 a11 a12 a b) ?_
 simp only [if_true]
 refine Evl.bind (Evl.now fun _ => next_eq hP hL a2 a3 a4 a5 a6 a7 a8 a9 a10 a11 a12 a b) ?_
 refine Evl.bind (rnext_ev hP hL a2 a3 a4 a5 a6 a7 a8 a9 a10 a11 a12 a b) ?_
 simp only [if_true]
 refine Evl.bind w1 ?_
 refine Evl.bind w2 ?_
 refine Evl.bind s1 ?_
 simp only [if_true]
 refine Evl.bind v1 ?_
 refine Evl.bind v2 ?_
 exact Evl.now fun _ => by simp
end
theorem tells (P : List S43) (L : List S39) (a2 a3 a4 a5 a6 a7 a8 a9 a10 a11 a12 a b : Int) : ∃ k, dl6_HopsTells.f k P L a2 a3 a4 a5 a6 a7 a8 a9 a10 a11 a12 a b = some true := by
 have h : Evl (fun k => dl6_HopsTells.f k P L a2 a3 a4 a5 a6 a7 a8 a9 a10 a11 a12 a b) true := by
  unfold dl6_HopsTells.f dl6_alive.f
  simp only [Option.bind_some, if_true]
  by_cases c : (P.length : Int) > 20
  ·simp only [if_pos c]
   exact tells_short a2 a3 a4 a5 a6 a7 a8 a9 a10 a11 a12 a b
  ·simp only [if_neg c]
   by_cases c2 : (L.length : Int) > 30
   ·rw [dT c2]
    exact tells_short a2 a3 a4 a5 a6 a7 a8 a9 a10 a11 a12 a b
   ·rw [dF c2]
    exact tells_long (by omega) (by omega) a2 a3 a4 a5 a6 a7 a8 a9 a10 a11 a12 a b
 exact h.some_
end Go.Proofs.YtbefbhghmommhaaDoor.MWo
