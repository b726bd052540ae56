/- AgesGone: a part that nobody hears of any more is gone after as many cycles, whatever all knew of it. No conditions. -/
import Derived.Test.YthkagdbabkkomaaPAgesGonex2
import Derived.Test.YthkagdbabkkomaaPlain
set_option linter.unusedVariables false
set_option linter.unusedSimpArgs false
namespace Go.Proofs.Ythkagdbabkkomaa.Pure
open Go.RowKit Go.Proofs.Ythkagdbabkkomaa.PAgesGone Go.Proofs.YthkagdbabkkomaaW.PrintWords Go.Proofs.YthkagdbabkkomaaW.PrintLast Go.Proofs.YthkagdbabkkomaaW.PrintMore Go.Proofs.Ythkagdbabkkomaa.Plain

theorem alive_evl : Evl (fun k => drumlinelaw15_alive.f k) true :=
  Evl.mono (fun k => drumlinelaw15_alive.mono k) (n := 40) (by decide +kernel)
theorem bound_eq (g : Int) : ages_bound.f g = some (bnd g) := rfl
theorem at_eq (l : List Int) (i g : Int) : ages_at.f l i g = some (att l i g) := by
  unfold ages_at.f att
  by_cases h : i < 0
  · rw [if_pos h, if_pos h]
  · rw [if_neg h, if_neg h]
    by_cases h2 : i ≥ (l.length : Int)
    · rw [if_pos h2, if_pos h2]
    · rw [if_neg h2, if_neg h2, if_pos (by omega), if_pos (by omega)]
theorem next_inner {l : List Int} {self g i m : Int} {h : List (List Int)} {acc R : List Int} (hg0 : 0 ≤ g) (hg1 : g ≤ 201) (hh : h.length ≤ 1000) (hacc : acc.length ≤ 100) (d : Nat) :
    ∀ (j n : Int), 0 ≤ j → j + d = h.length → 0 ≤ n → n ≤ 202 →
      Evl (fun k => ages_Next.l0 k l self h g (acc ++ [if i = self then 0 else mn (inn (h.drop j.toNat) i g n) g]) m (wrap64 (i + 1))) R →
      Evl (fun k => ages_Next.l1 k l self h g acc i n m i h (h.length : Int) j) R := by
  induction d with
  | zero =>
    intro j n h0 h1 hn0 hn1 H
    rw [List.drop_eq_nil_of_le (by omega)] at H
    refine Evl.step (fun k => ?_) H
    simp only [ages_Next.l1]
    rw [if_neg (by omega)]
    by_cases e : i = self
    · rw [if_pos e, if_pos (by omega), if_pos e]
    · rw [if_neg e, if_pos (by omega), if_neg e]
      rfl
  | succ d ih =>
    intro j n h0 h1 hn0 hn1 H
    have ha := att_bd (l := rd_L1 h j) (i := i) hg0
    have hm : 0 ≤ mn n (att (rd_L1 h j) i g + 1) ∧ mn n (att (rd_L1 h j) i g + 1) ≤ n := by unfold mn; split <;> omega
    refine Evl.step (fun k => ?_) (ih (j + 1) (mn n (att (rd_L1 h j) i g + 1)) (by omega) (by omega) hm.1 (by omega) ?_)
    · simp only [ages_Next.l1]
      rw [if_pos (by omega), if_pos (by omega), if_pos (by omega), at_eq]
      simp only [Option.bind_some]
      rw [w64 (x := att (rd_L1 h j) i g + 1) (by omega) (by omega), w64 (x := j + 1) (by omega) (by omega)]
    · rw [drop_cons (z := []) (by omega)] at H
      rw [show (j + 1).toNat = j.toNat + 1 by omega]
      exact H
theorem next_outer {l : List Int} {self g : Int} {h : List (List Int)} (hg0 : 0 ≤ g) (hg1 : g ≤ 201) (hh : h.length ≤ 1000) (d : Nat) :
    ∀ (i : Int) (acc : List Int) (m : Int), 0 ≤ i → i + d = m → m ≤ 6 → acc.length ≤ i →
      Evl (fun k => ages_Next.l0 k l self h g acc m i) (acc ++ nxs l self h g d i) := by
  induction d with
  | zero =>
    intro i acc m h0 h1 h2 h3
    refine Evl.stop (fun k => ?_)
    simp only [ages_Next.l0, nxs, List.append_nil]
    rw [if_neg (by omega)]
  | succ d ih =>
    intro i acc m h0 h1 h2 h3
    have ha := att_bd (l := l) (i := i) hg0
    have H := ih (i + 1) (acc ++ [nxv l self h g i]) m (by omega) (by omega) h2 (by simp; omega)
    rw [List.append_assoc] at H
    have := next_inner (l := l) (self := self) (i := i) (m := m) (acc := acc) hg0 hg1 hh (by omega) h.length 0 (att l i g + 1) (by omega) (by omega) (by omega) (by omega)
      (R := acc ++ nxs l self h g (d + 1) i) (by
        rw [w64 (x := i + 1) (by omega) (by omega)]
        exact H)
    refine Evl.step (fun k => ?_) this
    simp only [ages_Next.l0]
    rw [if_pos (by omega), at_eq]
    simp only [Option.bind_some]
    rw [w64 (x := att l i g + 1) (by omega) (by omega)]
theorem next_evl {l : List Int} {self g : Int} {h : List (List Int)} (hh : h.length ≤ 1000) : Evl (fun k => ages_Next.f k l self h g) (nx l self h g) := by
  have hb := bnd_bd g
  have hc : mn (l.length : Int) 6 = (cut6 l : Int) := by unfold mn cut6; split <;> omega
  have := next_outer (l := l) (self := self) hb.1 hb.2 hh (cut6 l) 0 [] (cut6 l) (by omega) (by omega) (by unfold cut6; omega) (by simp)
  refine Evl.congr (fun k => ?_) this
  unfold ages_Next.f
  rw [bound_eq, hc]
  rfl

theorem alive_outer {l : List Int} {g : Int} (d : Nat) :
    ∀ (i m : Int) (n : Int), 0 ≤ i → i + d = n → n ≤ 6 → Evl (fun k => ages_Alive.l0 k l g m n i) (mk l (bnd g) d i m) := by
  induction d with
  | zero =>
    intro i m n h0 h1 h2
    refine Evl.stop (fun k => ?_)
    simp only [ages_Alive.l0, mk]
    rw [if_neg (by omega)]
  | succ d ih =>
    intro i m n h0 h1 h2
    refine Evl.step (fun k => ?_) (ih (i + 1) (if att l i (bnd g) < bnd g then Go.bits .or .i64 m (shl .i64 1 i) else m) n (by omega) (by omega) h2)
    simp only [ages_Alive.l0]
    rw [if_pos (by omega), bound_eq]
    simp only [Option.bind_some]
    rw [at_eq]
    simp only [Option.bind_some]
    rw [w64 (x := i + 1) (by omega) (by omega)]
    by_cases e : att l i (bnd g) < bnd g
    · rw [if_pos e, if_pos (by omega), if_pos e]
    · rw [if_neg e, if_neg e]
theorem alv_evl (l : List Int) (g : Int) : Evl (fun k => ages_Alive.f k l g) (alv l g) := by
  have hc : mn (l.length : Int) 6 = (cut6 l : Int) := by unfold mn cut6; split <;> omega
  refine Evl.congr (fun k => ?_) (alive_outer (l := l) (g := g) (cut6 l) 0 0 (cut6 l) (by omega) (by omega) (by unfold cut6; omega))
  unfold ages_Alive.f
  rw [hc]

/-- What is there, of the first six parts. -/
def there (l : List Int) (b : Int) (i : Int) : Bool := decide (i < (l.length : Int) ∧ att l i b < b)
/-- A mask out of six answers. -/
def m6 (p : Int → Bool) : Nat → Int → Int → Int
  | 0, _, m => m
  | d + 1, i, m => m6 p d (i + 1) (if p i = true then Go.bits .or .i64 m (shl .i64 1 i) else m)
theorem mk_m6 {l : List Int} {b : Int} (hl : ∀ i : Int, (l.length : Int) ≤ i → att l i b = b) : ∀ (d : Nat) (i m : Int), 0 ≤ i → i + d = cut6 l → mk l b d i m = m6 (there l b) (d + (6 - cut6 l)) i m
  | 0, i, m, h0, h1 => by
    have : ∀ (e : Nat) (i m : Int), 0 ≤ i → (l.length : Int) ≤ i ∨ e = 0 → m6 (there l b) e i m = m := by
      intro e
      induction e with
      | zero => intro i m _ _; rfl
      | succ e ih =>
        intro i m h0 h
        unfold m6
        rw [if_neg (by unfold there; simp; omega)]
        exact ih (i + 1) m (by omega) (by omega)
    unfold mk
    exact (this (0 + (6 - cut6 l)) i m h0 (by unfold cut6 at h1 ⊢; omega)).symm
  | d + 1, i, m, h0, h1 => by
    have hc : (cut6 l : Int) ≤ l.length := by unfold cut6; omega
    rw [show d + 1 + (6 - cut6 l) = (d + (6 - cut6 l)) + 1 by omega]
    unfold mk m6
    have e : (there l b i = true) ↔ att l i b < b := by unfold there; simp; omega
    simp only [e]
    exact mk_m6 hl d (i + 1) _ (by omega) (by omega)
theorem alv_m6 (l : List Int) (g : Int) : alv l g = m6 (there l (bnd g)) 6 0 0 := by
  unfold alv
  rw [mk_m6 (fun i h => by unfold att; repeat (first | rfl | split | omega)) (cut6 l) 0 0 (by omega) (by omega)]
  congr 1
  unfold cut6; omega
/-- The six answers, one by one. -/
def six (b0 b1 b2 b3 b4 b5 : Bool) (i : Int) : Bool := if i = 0 then b0 else if i = 1 then b1 else if i = 2 then b2 else if i = 3 then b3 else if i = 4 then b4 else b5
theorem m6_six (p : Int → Bool) : m6 p 6 0 0 = m6 (six (p 0) (p 1) (p 2) (p 3) (p 4) (p 5)) 6 0 0 := by
  simp only [m6, six]
  rfl
theorem six_at (p : Int → Bool) {s : Int} (h0 : 0 ≤ s) (h1 : s < 6) : six (p 0) (p 1) (p 2) (p 3) (p 4) (p 5) s = p s := by
  have : s = 0 ∨ s = 1 ∨ s = 2 ∨ s = 3 ∨ s = 4 ∨ s = 5 := by omega
  rcases this with rfl | rfl | rfl | rfl | rfl | rfl <;> rfl
theorem bit_all : ∀ b0 b1 b2 b3 b4 b5 : Bool, ∀ s : Fin 6, (Go.bits .and .i64 (shr .i64 (m6 (six b0 b1 b2 b3 b4 b5) 6 0 0) (s.val : Int)) 1 = 1) = (six b0 b1 b2 b3 b4 b5 (s.val : Int) = true) := by
  decide +kernel
/-- Whether a part is there, off the mask. -/
theorem bit_alv {l : List Int} {g s : Int} (h0 : 0 ≤ s) (h1 : s < 6) : (Go.bits .and .i64 (shr .i64 (alv l g) s) 1 = 1) ↔ (s < (l.length : Int) ∧ att l s (bnd g) < bnd g) := by
  have := bit_all (there l (bnd g) 0) (there l (bnd g) 1) (there l (bnd g) 2) (there l (bnd g) 3) (there l (bnd g) 4) (there l (bnd g) 5) ⟨s.toNat, by omega⟩
  rw [← m6_six, ← alv_m6] at this
  simp only [show ((s.toNat : Nat) : Int) = s by omega] at this
  rw [six_at _ h0 h1] at this
  rw [this]
  unfold there
  simp

/-- At cycle t: so many lists, each so long, and nobody but the dead part itself has heard of it for t cycles. -/
def Inv (n : Nat) (g dd t : Int) (L : List (List Int)) : Prop := ∀ i : Int, 0 ≤ i → i < (L.length : Int) → (rd_L1 L i).length = n ∧ (i ≠ dd → mn t g ≤ att (rd_L1 L i) dd g)
/-- What may be heard. -/
def Old (g dd t : Int) (h : List (List Int)) : Prop := ∀ l ∈ h, mn t g ≤ att l dd g
theorem inn_old {g dd t : Int} (hg : 0 ≤ g) : ∀ (h : List (List Int)) (n : Int), Old g dd t h → mn t g + 1 ≤ n → mn t g + 1 ≤ inn h dd g n
  | [], n, _, h1 => h1
  | l :: r, n, ho, h1 => by
    have h2 := ho l (by simp)
    refine inn_old hg r (mn n (att l dd g + 1)) (fun x hx => ho x (by simp [hx])) ?_
    unfold mn at h1 h2 ⊢
    (repeat' split) <;> (repeat' split at h1) <;> (repeat' split at h2) <;> omega
theorem nx_old {l : List Int} {h : List (List Int)} {i g dd t : Int} (hg : 1 ≤ g) (hg1 : g ≤ 40) (hl : l.length ≤ 6) (hd0 : 0 ≤ dd) (hd1 : dd < (l.length : Int)) (ho : Old g dd t h) (hne : i ≠ dd) (hi : mn t g ≤ att l dd g) :
    mn (t + 1) g ≤ att (nx l i h g) dd g := by
  have hb : bnd g = g := bnd_id (by omega) (by omega)
  have hlen : ((nx l i h g).length : Int) = l.length := by rw [nx_length]; unfold cut6; omega
  have hx : rd (nx l i h g) dd = mn (inn h dd g (att l dd g + 1)) g := by
    rw [nx_get hd0 (by unfold cut6; omega), hb]
    unfold nxv
    rw [if_neg (by omega)]
  have h3 := inn_old (t := t) (by omega) h (att l dd g + 1) ho (by omega)
  generalize inn h dd g (att l dd g + 1) = q at hx h3
  unfold att
  rw [if_neg (by omega), if_neg (by omega), hx]
  unfold mn mx at *
  (repeat' split) <;> (repeat' split at h3) <;> omega
theorem rd_app {L : List (List Int)} {x : List Int} {i : Int} (h0 : 0 ≤ i) (h1 : i < (L.length : Int)) : rd_L1 (L ++ [x]) i = rd_L1 L i := by
  unfold rd_L1
  rw [List.getD_eq_getElem?_getD, List.getD_eq_getElem?_getD, List.getElem?_append_left (by omega)]
theorem rd_last {L : List (List Int)} {x : List Int} : rd_L1 (L ++ [x]) (L.length : Int) = x := by
  unfold rd_L1
  simp
theorem gone_end {L : List (List Int)} {g n dd : Int} (hg : 1 ≤ g) (hg1 : g ≤ 40) (hn : n ≤ 6) (hd0 : 0 ≤ dd) (hd1 : dd < n) (hL : (L.length : Int) = n) (hi : Inv n.toNat g dd g L) (d : Nat) :
    ∀ i : Int, 0 ≤ i → i + d = n → Evl (fun k => drumlinelaw15_AgesGone.l5 k g n dd L i) true := by
  have hb : bnd g = g := bnd_id (by omega) (by omega)
  induction d with
  | zero =>
    intro i h0 h1
    refine Evl.stop (fun k => ?_)
    simp only [drumlinelaw15_AgesGone.l5]
    rw [if_neg (by omega)]
  | succ d ih =>
    intro i h0 h1
    have H := ih (i + 1) (by omega) (by omega)
    refine Evl.succ ?_
    simp only [drumlinelaw15_AgesGone.l5, if_pos (show i < n by omega)]
    rw [w64 (x := i + 1) (by omega) (by omega)]
    by_cases e : i = dd
    · simp only [if_pos e]; exact H
    · simp only [if_neg e, if_pos h0, if_pos (show i < (L.length : Int) by omega)]
      refine Evl.bind (alv_evl _ _) ?_
      have h2 := (hi i h0 (by omega)).2 e
      have h3 : ¬ (Go.bits .and .i64 (shr .i64 (alv (rd_L1 L i) g) dd) 1 = 1) := by
        rw [bit_alv hd0 (by omega), hb]
        unfold mn at h2
        split at h2 <;> omega
      simp only [wu64 (x := dd) (by omega) (by omega), if_pos hd0, if_neg h3]
      exact H
theorem gone_links {links : List Int} {L nxt : List (List Int)} {g n dd t i tt : Int} (hg : 1 ≤ g) (hg1 : g ≤ 40) (hn0 : 2 ≤ n) (hn : n ≤ 6) (hd0 : 0 ≤ dd) (hd1 : dd < n) (hL : (L.length : Int) = n) (hi : Inv n.toNat g dd tt L) (h0 : 0 ≤ i) (hin : i < n)
    (hlk : ∀ v ∈ links, 0 ≤ v ∧ v ≤ 255) (hll : links.length ≤ 30) (hnx : nxt.length ≤ 10)
    (C : ∀ h : List (List Int), Old g dd tt h → h.length ≤ 100 → Evl (fun k => drumlinelaw15_AgesGone.l3 k links g n dd L t (nxt ++ [nx (rd_L1 L i) i h g]) (i + 1)) true)
    (d : Nat) : ∀ (j : Int) (h : List (List Int)), 0 ≤ j → j + d = links.length → (h.length : Int) ≤ 2 * j → Old g dd tt h → Evl (fun k => drumlinelaw15_AgesGone.l4 k links g n dd L t nxt i h j) true := by
  induction d with
  | zero =>
    intro j h hj0 hj1 hh ho
    refine Evl.succ ?_
    simp only [drumlinelaw15_AgesGone.l4, if_neg (show ¬ j < (links.length : Int) by omega), if_pos h0, if_pos (show i < (L.length : Int) by omega)]
    refine Evl.bind (next_evl (by omega)) ?_
    simp only [if_pos (show nxt.length < 5864062014805 by omega)]
    rw [w64 (x := i + 1) (by omega) (by omega)]
    exact C h ho (by omega)
  | succ d ih =>
    intro j h hj0 hj1 hh ho
    have hv : 0 ≤ rd links j ∧ rd links j ≤ 255 := hlk _ (by
      unfold rd
      rw [List.getD_eq_getElem?_getD, List.getElem?_eq_getElem (by omega)]
      simp)
    have hw : 0 ≤ Go.bits .and .u8 (rd links j) 15 ∧ Go.bits .and .u8 (rd links j) 15 ≤ 255 := by
      unfold Go.bits
      simp [IntKind.wrap, IntKind.signed, IntKind.bits]
      omega
    refine Evl.succ ?_
    simp only [drumlinelaw15_AgesGone.l4, if_pos (show j < (links.length : Int) by omega), if_pos hj0, if_neg (show ¬ n = 0 by omega)]
    rw [w64 (x := Go.bits .and .u8 (rd links j) 15) (by omega) (by omega), w64 (x := rd links j / 16) (by omega) (by omega), Int.tmod_eq_emod_of_nonneg hw.1, Int.tmod_eq_emod_of_nonneg (show 0 ≤ rd links j / 16 by omega)]
    have a0 := Int.emod_nonneg (Go.bits .and .u8 (rd links j) 15) (show n ≠ 0 by omega)
    have a1 := Int.emod_lt_of_pos (Go.bits .and .u8 (rd links j) 15) (show 0 < n by omega)
    have b0 := Int.emod_nonneg (rd links j / 16) (show n ≠ 0 by omega)
    have b1 := Int.emod_lt_of_pos (rd links j / 16) (show 0 < n by omega)
    generalize Go.bits .and .u8 (rd links j) 15 % n = a at a0 a1
    generalize rd links j / 16 % n = b at b0 b1
    have old : ∀ (h : List (List Int)) (q : Int), Old g dd tt h → 0 ≤ q → q < n → q ≠ dd → Old g dd tt (h ++ [rd_L1 L q]) := by
      intro h q ho q0 q1 q2 l hl
      rcases List.mem_append.1 hl with hl | hl
      · exact ho l hl
      · rw [List.mem_singleton.1 hl]
        exact (hi q q0 (by omega)).2 q2
    -- behind the first half
    have rest : ∀ (h : List (List Int)), Old g dd tt h → (h.length : Int) ≤ 2 * j + 1 →
        Evl (fun k => if b = i then (if a = dd then (drumlinelaw15_AgesGone.l4 k links g n dd L t nxt i h (wrap64 (j + 1))) else (if 0 ≤ a then (if a < (L.length : Int) then (if h.length < 5864062014805 then (drumlinelaw15_AgesGone.l4 k links g n dd L t nxt i (h ++ [rd_L1 L a]) (wrap64 (j + 1))) else (none)) else (none)) else (none))) else (drumlinelaw15_AgesGone.l4 k links g n dd L t nxt i h (wrap64 (j + 1)))) true := by
      intro h ho hh
      rw [w64 (x := j + 1) (by omega) (by omega)]
      by_cases e1 : b = i
      · simp only [if_pos e1]
        by_cases e2 : a = dd
        · simp only [if_pos e2]
          exact ih (j + 1) h (by omega) (by omega) (by omega) ho
        · simp only [if_neg e2, if_pos a0, if_pos (show a < (L.length : Int) by omega), if_pos (show h.length < 5864062014805 by omega)]
          exact ih (j + 1) _ (by omega) (by omega) (by simp; omega) (old h a ho a0 a1 e2)
      · simp only [if_neg e1]
        exact ih (j + 1) h (by omega) (by omega) (by omega) ho
    by_cases e : a = i
    · simp only [if_pos e]
      refine Evl.succ ?_
      simp only [drumlinelaw15_AgesGone.j6]
      by_cases e3 : b = dd
      · simp only [e3, bne_self_eq_false, Bool.false_eq_true, if_false]
        simp only [e3] at rest
        exact rest h ho (by omega)
      · have e4 : (b != dd) = true := bne_iff_ne.2 e3
        simp only [e4, if_true, if_pos b0, if_pos (show b < (L.length : Int) by omega), if_pos (show h.length < 5864062014805 by omega), Option.bind_some]
        exact rest (h ++ [rd_L1 L b]) (old h b ho b0 b1 e3) (by simp; omega)
    · simp only [if_neg e]
      refine Evl.succ ?_
      simp only [drumlinelaw15_AgesGone.j6, Bool.false_eq_true, if_false]
      exact rest h ho (by omega)
theorem gone_parts {links : List Int} {L : List (List Int)} {g n dd t : Int} (hg : 1 ≤ g) (hg1 : g ≤ 40) (hn0 : 2 ≤ n) (hn : n ≤ 6) (hd0 : 0 ≤ dd) (hd1 : dd < n) (hL : (L.length : Int) = n) (ht0 : 0 ≤ t) (ht : t ≤ 40) (hi : Inv n.toNat g dd t L)
    (hlk : ∀ v ∈ links, 0 ≤ v ∧ v ≤ 255) (hll : links.length ≤ 30)
    (C : ∀ nxt : List (List Int), (nxt.length : Int) = n → Inv n.toNat g dd (t + 1) nxt → Evl (fun k => drumlinelaw15_AgesGone.l2 k links g n dd nxt (t + 1)) true)
    (d : Nat) : ∀ (i : Int) (nxt : List (List Int)), 0 ≤ i → i + d = n → (nxt.length : Int) = i → Inv n.toNat g dd (t + 1) nxt → Evl (fun k => drumlinelaw15_AgesGone.l3 k links g n dd L t nxt i) true := by
  induction d with
  | zero =>
    intro i nxt h0 h1 h2 h3
    refine Evl.succ ?_
    simp only [drumlinelaw15_AgesGone.l3, if_neg (show ¬ i < n by omega)]
    rw [w64 (x := t + 1) (by omega) (by omega)]
    exact C nxt (by omega) h3
  | succ d ih =>
    intro i nxt h0 h1 h2 h3
    refine Evl.succ ?_
    simp only [drumlinelaw15_AgesGone.l3, if_pos (show i < n by omega)]
    refine gone_links (tt := t) hg hg1 hn0 hn hd0 hd1 hL hi h0 (by omega) hlk hll (by omega) ?_ links.length 0 [] (by omega) (by omega) (by simp) (fun l hl => by simp at hl)
    intro h ho _
    refine ih (i + 1) _ (by omega) (by omega) (by simp; omega) ?_
    intro q q0 q1
    have hii := hi i h0 (by omega)
    by_cases e : q = i
    · subst e
      have hr : rd_L1 (nxt ++ [nx (rd_L1 L q) q h g]) q = nx (rd_L1 L q) q h g := by
        have := rd_last (L := nxt) (x := nx (rd_L1 L q) q h g)
        rwa [h2] at this
      rw [hr]
      refine ⟨by rw [nx_length]; unfold cut6; omega, fun hne => ?_⟩
      exact nx_old hg hg1 (by omega) hd0 (by omega) ho hne (hii.2 hne)
    · rw [rd_app q0 (by simp at q1; omega)]
      exact h3 q q0 (by simp at q1; omega)
theorem gone_cycles {links : List Int} {g n dd : Int} (hg : 1 ≤ g) (hg1 : g ≤ 40) (hn0 : 2 ≤ n) (hn : n ≤ 6) (hd0 : 0 ≤ dd) (hd1 : dd < n) (hlk : ∀ v ∈ links, 0 ≤ v ∧ v ≤ 255) (hll : links.length ≤ 30) (d : Nat) :
    ∀ (t : Int) (L : List (List Int)), 0 ≤ t → t + d = g → (L.length : Int) = n → Inv n.toNat g dd t L → Evl (fun k => drumlinelaw15_AgesGone.l2 k links g n dd L t) true := by
  induction d with
  | zero =>
    intro t L h0 h1 h2 h3
    obtain rfl : t = g := by omega
    refine Evl.succ ?_
    simp only [drumlinelaw15_AgesGone.l2, if_neg (show ¬ t < t by omega)]
    exact gone_end hg hg1 hn hd0 hd1 h2 h3 n.toNat 0 (by omega) (by omega)
  | succ d ih =>
    intro t L h0 h1 h2 h3
    refine Evl.succ ?_
    simp only [drumlinelaw15_AgesGone.l2, if_pos (show t < g by omega)]
    exact gone_parts hg hg1 hn0 hn hd0 hd1 h2 h0 (by omega) h3 hlk hll (fun nxt a b => ih (t + 1) nxt (by omega) (by omega) a b) n.toNat 0 [] (by omega) (by omega) (by simp) (fun i i0 i1 => by simp at i1; omega)
theorem gone_row {start : List (List Int)} {links : List Int} {g n dd i : Int} {L : List (List Int)} (hn : n ≤ 6) (hs : (start.length : Int) = n) (h0 : 0 ≤ i) (hin : i < n) (hLl : L.length ≤ 6)
    (C : ∀ x : List Int, (x.length : Int) = n → Evl (fun k => drumlinelaw15_AgesGone.l0 k start links g n dd (L ++ [x]) (i + 1)) true)
    (d : Nat) : ∀ (j : Int) (x : List Int), 0 ≤ j → j + d = n → (x.length : Int) = j → Evl (fun k => drumlinelaw15_AgesGone.l1 k start links g n dd L i x j) true := by
  induction d with
  | zero =>
    intro j x hj0 hj1 hx
    refine Evl.succ ?_
    simp only [drumlinelaw15_AgesGone.l1, if_neg (show ¬ j < n by omega), if_pos (show L.length < 5864062014805 by omega)]
    rw [w64 (x := i + 1) (by omega) (by omega)]
    exact C x (by omega)
  | succ d ih =>
    intro j x hj0 hj1 hx
    refine Evl.succ ?_
    simp only [drumlinelaw15_AgesGone.l1, if_pos (show j < n by omega), if_pos h0, if_pos (show i < (start.length : Int) by omega), if_pos hj0, if_pos (show x.length < 17592186044416 by omega)]
    rw [w64 (x := j + 1) (by omega) (by omega)]
    by_cases e : j < ((rd_L3 start i).length : Int)
    · simp only [if_pos e]
      exact ih (j + 1) _ (by omega) (by omega) (by simp; omega)
    · simp only [if_neg e]
      exact ih (j + 1) _ (by omega) (by omega) (by simp; omega)
theorem gone_rows {start : List (List Int)} {links : List Int} {g n dd : Int} (hg : 1 ≤ g) (hg1 : g ≤ 40) (hn0 : 2 ≤ n) (hn : n ≤ 6) (hd0 : 0 ≤ dd) (hd1 : dd < n) (hs : (start.length : Int) = n) (hlk : ∀ v ∈ links, 0 ≤ v ∧ v ≤ 255) (hll : links.length ≤ 30) (d : Nat) :
    ∀ (i : Int) (L : List (List Int)), 0 ≤ i → i + d = n → (L.length : Int) = i → Inv n.toNat g dd 0 L → Evl (fun k => drumlinelaw15_AgesGone.l0 k start links g n dd L i) true := by
  induction d with
  | zero =>
    intro i L h0 h1 h2 h3
    refine Evl.succ ?_
    simp only [drumlinelaw15_AgesGone.l0, if_neg (show ¬ i < n by omega)]
    exact gone_cycles hg hg1 hn0 hn hd0 hd1 hlk hll g.toNat 0 L (by omega) (by omega) (by omega) h3
  | succ d ih =>
    intro i L h0 h1 h2 h3
    refine Evl.succ ?_
    simp only [drumlinelaw15_AgesGone.l0, if_pos (show i < n by omega)]
    refine gone_row hn hs h0 (by omega) (by omega) ?_ n.toNat 0 [] (by omega) (by omega) (by simp)
    intro x hx
    refine ih (i + 1) _ (by omega) (by omega) (by simp; omega) ?_
    intro q q0 q1
    have zero : ∀ l : List Int, mn 0 g ≤ att l dd g := fun l => by
      have := att_bd (l := l) (i := dd) (g := g) (by omega)
      unfold mn; split <;> omega
    by_cases e : q = i
    · subst e
      have hr : rd_L1 (L ++ [x]) q = x := by
        have := rd_last (L := L) (x := x)
        rwa [h2] at this
      rw [hr]
      exact ⟨by omega, fun _ => zero _⟩
    · rw [rd_app q0 (by simp at q1; omega)]
      exact h3 q q0 (by simp at q1; omega)
theorem AgesGone (start : List (List Int)) (links : List Int) (gone dead : Int) (_ : (∀ x ∈ start, (fun l => (∀ x ∈ l, (fun n => (Lit.int .u8 n).wf = true) x) ∧ l.length ≤ 9223372036854775807) x) ∧ start.length ≤ 9223372036854775807)
    (hl : (∀ x ∈ links, (fun n => (Lit.int .u8 n).wf = true) x) ∧ links.length ≤ 9223372036854775807) (hg : (Lit.int .u8 gone).wf = true) (hd : (Lit.int .u8 dead).wf = true) :
    ∃ k, drumlinelaw15_AgesGone.f k start links gone dead = some true := by
  refine Evl.some_ ?_
  obtain ⟨s0, s1⟩ := wfu8 hd
  obtain ⟨g0, g1⟩ := wfu8 hg
  unfold drumlinelaw15_AgesGone.f
  have eg : wrap64 (1 + Int.tmod (wrap64 gone) 40) = 1 + gone % 40 := by
    rw [w64 (x := gone) (by omega) (by omega), Int.tmod_eq_emod_of_nonneg g0, w64 (by omega) (by omega)]
  rw [eg]
  generalize hG : 1 + gone % 40 = g
  have gb : 1 ≤ g ∧ g ≤ 40 := by omega
  refine Evl.bind alive_evl ?_
  simp only [if_true]
  have out : Evl (fun k => drumlinelaw15_AgesGone.j0 k start links dead g (start.length : Int) true) true := by
    refine Evl.succ ?_
    simp only [drumlinelaw15_AgesGone.j0, if_true]
    exact Evl.bind alive_evl (Evl.now fun _ => rfl)
  by_cases e0 : (start.length : Int) < 2
  · simp only [if_pos e0]; exact out
  simp only [if_neg e0]
  by_cases e1 : (start.length : Int) > 6
  · simp only [if_pos e1]; exact out
  simp only [if_neg e1]
  by_cases e2 : (links.length : Int) > 30
  · simp only [decide_eq_true e2]; exact out
  simp only [decide_eq_false e2]
  refine Evl.succ ?_
  simp only [drumlinelaw15_AgesGone.j0, Bool.false_eq_true, if_false, if_neg (show ¬ (start.length : Int) = 0 by omega)]
  rw [w64 (x := dead) (by omega) (by omega), Int.tmod_eq_emod_of_nonneg s0]
  have t0 := Int.emod_nonneg dead (show (start.length : Int) ≠ 0 by omega)
  have t1 := Int.emod_lt_of_pos dead (show 0 < (start.length : Int) by omega)
  generalize dead % (start.length : Int) = dd at t0 t1
  exact gone_rows gb.1 gb.2 (by omega) (by omega) t0 t1 rfl (fun v hv => wfu8 (hl.1 v hv)) (by omega) start.length 0 [] (by omega) (by omega) (by simp) (fun i i0 i1 => by simp at i1; omega)

end Go.Proofs.Ythkagdbabkkomaa.Pure
