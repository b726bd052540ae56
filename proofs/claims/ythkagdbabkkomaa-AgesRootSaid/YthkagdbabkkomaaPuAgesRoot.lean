/- AgesRoot: the root is the least part that is there, and one's own part is always there, with a gone above 0. No conditions. -/
import Derived.Test.YthkagdbabkkomaaPAgesRootx2
import Derived.Test.YthkagdbabkkomaaPlain
set_option linter.unusedVariables false
set_option linter.unusedSimpArgs false
namespace Go.Proofs.Ythkagdbabkkomaa.Pure
open Go.RowKit Go.Proofs.Ythkagdbabkkomaa.PAgesRoot Go.Proofs.YthkagdbabkkomaaW.PrintWords Go.Proofs.YthkagdbabkkomaaW.PrintLast Go.Proofs.YthkagdbabkkomaaW.PrintMore Go.Proofs.Ythkagdbabkkomaa.Plain

theorem alive_evl : Evl (fun k => drumlinelaw15_alive.f k) true :=
  Evl.mono (fun k => drumlinelaw15_alive.mono k) (n := 40) (by decide +kernel)
theorem bound_eq (g : Int) : ages_bound.f g = some (bnd g) := rfl
theorem at_eq (l : List Int) (i g : Int) : ages_at.f l i g = some (att l i g) := by
  unfold ages_at.f att
  by_cases h : i < 0
  · rw [if_pos h, if_pos h]
  · rw [if_neg h, if_neg h]
    by_cases h2 : i ≥ (l.length : Int)
    · rw [if_pos h2, if_pos h2]
    · rw [if_neg h2, if_neg h2, if_pos (by omega), if_pos (by omega)]
theorem next_inner {l : List Int} {self g i m : Int} {h : List (List Int)} {acc R : List Int} (hg0 : 0 ≤ g) (hg1 : g ≤ 201) (hh : h.length ≤ 1000) (hacc : acc.length ≤ 100) (d : Nat) :
    ∀ (j n : Int), 0 ≤ j → j + d = h.length → 0 ≤ n → n ≤ 202 →
      Evl (fun k => ages_Next.l0 k l self h g (acc ++ [if i = self then 0 else mn (inn (h.drop j.toNat) i g n) g]) m (wrap64 (i + 1))) R →
      Evl (fun k => ages_Next.l1 k l self h g acc i n m i h (h.length : Int) j) R := by
  induction d with
  | zero =>
    intro j n h0 h1 hn0 hn1 H
    rw [List.drop_eq_nil_of_le (by omega)] at H
    refine Evl.step (fun k => ?_) H
    simp only [ages_Next.l1]
    rw [if_neg (by omega)]
    by_cases e : i = self
    · rw [if_pos e, if_pos (by omega), if_pos e]
    · rw [if_neg e, if_pos (by omega), if_neg e]
      rfl
  | succ d ih =>
    intro j n h0 h1 hn0 hn1 H
    have ha := att_bd (l := rd_L1 h j) (i := i) hg0
    have hm : 0 ≤ mn n (att (rd_L1 h j) i g + 1) ∧ mn n (att (rd_L1 h j) i g + 1) ≤ n := by unfold mn; split <;> omega
    refine Evl.step (fun k => ?_) (ih (j + 1) (mn n (att (rd_L1 h j) i g + 1)) (by omega) (by omega) hm.1 (by omega) ?_)
    · simp only [ages_Next.l1]
      rw [if_pos (by omega), if_pos (by omega), if_pos (by omega), at_eq]
      simp only [Option.bind_some]
      rw [w64 (x := att (rd_L1 h j) i g + 1) (by omega) (by omega), w64 (x := j + 1) (by omega) (by omega)]
    · rw [drop_cons (z := []) (by omega)] at H
      rw [show (j + 1).toNat = j.toNat + 1 by omega]
      exact H
theorem next_outer {l : List Int} {self g : Int} {h : List (List Int)} (hg0 : 0 ≤ g) (hg1 : g ≤ 201) (hh : h.length ≤ 1000) (d : Nat) :
    ∀ (i : Int) (acc : List Int) (m : Int), 0 ≤ i → i + d = m → m ≤ 6 → acc.length ≤ i →
      Evl (fun k => ages_Next.l0 k l self h g acc m i) (acc ++ nxs l self h g d i) := by
  induction d with
  | zero =>
    intro i acc m h0 h1 h2 h3
    refine Evl.stop (fun k => ?_)
    simp only [ages_Next.l0, nxs, List.append_nil]
    rw [if_neg (by omega)]
  | succ d ih =>
    intro i acc m h0 h1 h2 h3
    have ha := att_bd (l := l) (i := i) hg0
    have H := ih (i + 1) (acc ++ [nxv l self h g i]) m (by omega) (by omega) h2 (by simp; omega)
    rw [List.append_assoc] at H
    have := next_inner (l := l) (self := self) (i := i) (m := m) (acc := acc) hg0 hg1 hh (by omega) h.length 0 (att l i g + 1) (by omega) (by omega) (by omega) (by omega)
      (R := acc ++ nxs l self h g (d + 1) i) (by
        rw [w64 (x := i + 1) (by omega) (by omega)]
        exact H)
    refine Evl.step (fun k => ?_) this
    simp only [ages_Next.l0]
    rw [if_pos (by omega), at_eq]
    simp only [Option.bind_some]
    rw [w64 (x := att l i g + 1) (by omega) (by omega)]
theorem next_evl {l : List Int} {self g : Int} {h : List (List Int)} (hh : h.length ≤ 1000) : Evl (fun k => ages_Next.f k l self h g) (nx l self h g) := by
  have hb := bnd_bd g
  have hc : mn (l.length : Int) 6 = (cut6 l : Int) := by unfold mn cut6; split <;> omega
  have := next_outer (l := l) (self := self) hb.1 hb.2 hh (cut6 l) 0 [] (cut6 l) (by omega) (by omega) (by unfold cut6; omega) (by simp)
  refine Evl.congr (fun k => ?_) this
  unfold ages_Next.f
  rw [bound_eq, hc]
  rfl

theorem alive_outer {l : List Int} {g : Int} (d : Nat) :
    ∀ (i m : Int) (n : Int), 0 ≤ i → i + d = n → n ≤ 6 → Evl (fun k => ages_Alive.l0 k l g m n i) (mk l (bnd g) d i m) := by
  induction d with
  | zero =>
    intro i m n h0 h1 h2
    refine Evl.stop (fun k => ?_)
    simp only [ages_Alive.l0, mk]
    rw [if_neg (by omega)]
  | succ d ih =>
    intro i m n h0 h1 h2
    refine Evl.step (fun k => ?_) (ih (i + 1) (if att l i (bnd g) < bnd g then Go.bits .or .i64 m (shl .i64 1 i) else m) n (by omega) (by omega) h2)
    simp only [ages_Alive.l0]
    rw [if_pos (by omega), bound_eq]
    simp only [Option.bind_some]
    rw [at_eq]
    simp only [Option.bind_some]
    rw [w64 (x := i + 1) (by omega) (by omega)]
    by_cases e : att l i (bnd g) < bnd g
    · rw [if_pos e, if_pos (by omega), if_pos e]
    · rw [if_neg e, if_neg e]
theorem alv_evl (l : List Int) (g : Int) : Evl (fun k => ages_Alive.f k l g) (alv l g) := by
  have hc : mn (l.length : Int) 6 = (cut6 l : Int) := by unfold mn cut6; split <;> omega
  refine Evl.congr (fun k => ?_) (alive_outer (l := l) (g := g) (cut6 l) 0 0 (cut6 l) (by omega) (by omega) (by unfold cut6; omega))
  unfold ages_Alive.f
  rw [hc]
theorem root_outer {m : Int} (d : Nat) : ∀ i : Int, 0 ≤ i → i + d = 6 → Evl (fun k => ages_Root.l0 k m i) (rt m d i) := by
  induction d with
  | zero =>
    intro i h0 h1
    refine Evl.stop (fun k => ?_)
    simp only [ages_Root.l0, rt]
    rw [if_neg (by omega)]
  | succ d ih =>
    intro i h0 h1
    by_cases e : Go.bits .and .i64 (shr .i64 m i) 1 = 1
    · refine Evl.stop (fun k => ?_)
      simp only [ages_Root.l0, rt]
      rw [if_pos (by omega), if_pos (by omega), if_pos e, if_pos e]
    · refine Evl.step (fun k => ?_) (show Evl _ (rt m (d + 1) i) by unfold rt; rw [if_neg e]; exact ih (i + 1) (by omega) (by omega))
      simp only [ages_Root.l0]
      rw [if_pos (by omega), if_pos (by omega), if_neg e, w64 (x := i + 1) (by omega) (by omega)]
theorem root_evl (l : List Int) (g : Int) : Evl (fun k => ages_Root.f k l g) (root l g) := by
  unfold ages_Root.f
  exact Evl.bind (alv_evl l g) (root_outer 6 0 (by omega) (by omega))

theorem small_outer {h : List (List Int)} (hh : h.length ≤ 30) (d : Nat) : ∀ j : Int, 0 ≤ j → j + d = h.length → ∃ b, Evl (fun k => drumlinelaw15_small.l0 k h j) b := by
  induction d with
  | zero =>
    intro j h0 h1
    refine ⟨true, Evl.stop (fun k => ?_)⟩
    simp only [drumlinelaw15_small.l0]
    rw [if_neg (by omega)]
  | succ d ih =>
    intro j h0 h1
    by_cases e : ((rd_L1 h j).length : Int) > 30
    · refine ⟨false, Evl.stop (fun k => ?_)⟩
      simp only [drumlinelaw15_small.l0]
      rw [if_pos (by omega), if_pos (by omega), if_pos e]
    · obtain ⟨b, hb⟩ := ih (j + 1) (by omega) (by omega)
      refine ⟨b, Evl.step (fun k => ?_) hb⟩
      simp only [drumlinelaw15_small.l0]
      rw [if_pos (by omega), if_pos (by omega), if_neg e, w64 (x := j + 1) (by omega) (by omega)]
/-- Whether lists are few: it answers, and where it says so they are. -/
theorem small_evl (h : List (List Int)) : ∃ b, Evl (fun k => drumlinelaw15_small.f k h) b ∧ (b = true → h.length ≤ 30) := by
  unfold drumlinelaw15_small.f
  by_cases e : (h.length : Int) > 30
  · simp only [if_pos e]
    exact ⟨false, Evl.now fun _ => rfl, fun h => by simp at h⟩
  · simp only [if_neg e]
    obtain ⟨b, hb⟩ := small_outer (h := h) (by omega) h.length 0 (by omega) (by omega)
    exact ⟨b, hb, fun _ => by omega⟩

/-- What is there, of the first six parts. -/
def there (l : List Int) (b : Int) (i : Int) : Bool := decide (i < (l.length : Int) ∧ att l i b < b)
/-- A mask out of six answers. -/
def m6 (p : Int → Bool) : Nat → Int → Int → Int
  | 0, _, m => m
  | d + 1, i, m => m6 p d (i + 1) (if p i = true then Go.bits .or .i64 m (shl .i64 1 i) else m)
theorem mk_m6 {l : List Int} {b : Int} (hl : ∀ i : Int, (l.length : Int) ≤ i → att l i b = b) : ∀ (d : Nat) (i m : Int), 0 ≤ i → i + d = cut6 l → mk l b d i m = m6 (there l b) (d + (6 - cut6 l)) i m
  | 0, i, m, h0, h1 => by
    have : ∀ (e : Nat) (i m : Int), 0 ≤ i → (l.length : Int) ≤ i ∨ e = 0 → m6 (there l b) e i m = m := by
      intro e
      induction e with
      | zero => intro i m _ _; rfl
      | succ e ih =>
        intro i m h0 h
        unfold m6
        rw [if_neg (by unfold there; simp; omega)]
        exact ih (i + 1) m (by omega) (by omega)
    unfold mk
    exact (this (0 + (6 - cut6 l)) i m h0 (by unfold cut6 at h1 ⊢; omega)).symm
  | d + 1, i, m, h0, h1 => by
    have hc : (cut6 l : Int) ≤ l.length := by unfold cut6; omega
    rw [show d + 1 + (6 - cut6 l) = (d + (6 - cut6 l)) + 1 by omega]
    unfold mk m6
    have e : (there l b i = true) ↔ att l i b < b := by unfold there; simp; omega
    simp only [e]
    exact mk_m6 hl d (i + 1) _ (by omega) (by omega)
theorem alv_m6 (l : List Int) (g : Int) : alv l g = m6 (there l (bnd g)) 6 0 0 := by
  unfold alv
  rw [mk_m6 (fun i h => by unfold att; repeat (first | rfl | split | omega)) (cut6 l) 0 0 (by omega) (by omega)]
  congr 1
  unfold cut6; omega
/-- The six answers, one by one. -/
def six (b0 b1 b2 b3 b4 b5 : Bool) (i : Int) : Bool := if i = 0 then b0 else if i = 1 then b1 else if i = 2 then b2 else if i = 3 then b3 else if i = 4 then b4 else b5
theorem m6_six (p : Int → Bool) : m6 p 6 0 0 = m6 (six (p 0) (p 1) (p 2) (p 3) (p 4) (p 5)) 6 0 0 := by
  simp only [m6, six]
  rfl
theorem six_at (p : Int → Bool) {s : Int} (h0 : 0 ≤ s) (h1 : s < 6) : six (p 0) (p 1) (p 2) (p 3) (p 4) (p 5) s = p s := by
  have : s = 0 ∨ s = 1 ∨ s = 2 ∨ s = 3 ∨ s = 4 ∨ s = 5 := by omega
  rcases this with rfl | rfl | rfl | rfl | rfl | rfl <;> rfl
theorem bit_all : ∀ b0 b1 b2 b3 b4 b5 : Bool, ∀ s : Fin 6, (Go.bits .and .i64 (shr .i64 (m6 (six b0 b1 b2 b3 b4 b5) 6 0 0) (s.val : Int)) 1 = 1) = (six b0 b1 b2 b3 b4 b5 (s.val : Int) = true) := by
  decide +kernel
/-- Whether a part is there, off the mask. -/
theorem bit_alv {l : List Int} {g s : Int} (h0 : 0 ≤ s) (h1 : s < 6) : (Go.bits .and .i64 (shr .i64 (alv l g) s) 1 = 1) ↔ (s < (l.length : Int) ∧ att l s (bnd g) < bnd g) := by
  have := bit_all (there l (bnd g) 0) (there l (bnd g) 1) (there l (bnd g) 2) (there l (bnd g) 3) (there l (bnd g) 4) (there l (bnd g) 5) ⟨s.toNat, by omega⟩
  rw [← m6_six, ← alv_m6] at this
  simp only [show ((s.toNat : Nat) : Int) = s by omega] at this
  rw [six_at _ h0 h1] at this
  rw [this]
  unfold there
  simp

theorem root_all : ∀ b0 b1 b2 b3 b4 b5 : Bool, ∀ s : Fin 6, six b0 b1 b2 b3 b4 b5 (s.val : Int) = true →
    0 ≤ rt (m6 (six b0 b1 b2 b3 b4 b5) 6 0 0) 6 0 ∧ rt (m6 (six b0 b1 b2 b3 b4 b5) 6 0 0) 6 0 ≤ (s.val : Int) ∧ Go.bits .and .i64 (shr .i64 (m6 (six b0 b1 b2 b3 b4 b5) 6 0 0) (rt (m6 (six b0 b1 b2 b3 b4 b5) 6 0 0) 6 0)) 1 = 1 ∧
      Go.bits .and .i64 (m6 (six b0 b1 b2 b3 b4 b5) 6 0 0) (wrap64 ((shl .i64 1 (rt (m6 (six b0 b1 b2 b3 b4 b5) 6 0 0) 6 0)) - 1)) = 0 := by
  decide +kernel
theorem root_alv {l : List Int} {g s : Int} (h0 : 0 ≤ s) (h1 : s < 6) (h2 : s < (l.length : Int)) (h3 : att l s (bnd g) < bnd g) :
    0 ≤ root l g ∧ root l g ≤ s ∧ Go.bits .and .i64 (shr .i64 (alv l g) (root l g)) 1 = 1 ∧ Go.bits .and .i64 (alv l g) (wrap64 ((shl .i64 1 (root l g)) - 1)) = 0 := by
  have := root_all (there l (bnd g) 0) (there l (bnd g) 1) (there l (bnd g) 2) (there l (bnd g) 3) (there l (bnd g) 4) (there l (bnd g) 5) ⟨s.toNat, by omega⟩
    (by simp only [show ((s.toNat : Nat) : Int) = s by omega]; rw [six_at _ h0 h1]; unfold there; simp [h2, h3])
  rw [← m6_six, ← alv_m6] at this
  simp only [show ((s.toNat : Nat) : Int) = s by omega] at this
  exact this
theorem AgesRoot (l : List Int) (self : Int) (h : List (List Int)) (gone : Int) (hl : (∀ x ∈ l, (fun n => (Lit.int .i64 n).wf = true) x) ∧ l.length ≤ 9223372036854775807) (hs : (Lit.int .u8 self).wf = true)
    (_ : (∀ x ∈ h, (fun l => (∀ x ∈ l, (fun n => (Lit.int .i64 n).wf = true) x) ∧ l.length ≤ 9223372036854775807) x) ∧ h.length ≤ 9223372036854775807) (hg : (Lit.int .u8 gone).wf = true) :
    ∃ k, drumlinelaw15_AgesRoot.f k l self h gone = some true := by
  refine Evl.some_ ?_
  obtain ⟨s0, s1⟩ := wfu8 hs
  obtain ⟨g0, g1⟩ := wfu8 hg
  unfold drumlinelaw15_AgesRoot.f
  have eg : wrap64 (1 + Int.tmod (wrap64 gone) 200) = 1 + gone % 200 := by
    rw [w64 (x := gone) (by omega) (by omega), Int.tmod_eq_emod_of_nonneg g0, w64 (by omega) (by omega)]
  rw [eg]
  generalize hG : 1 + gone % 200 = g
  have gb : 1 ≤ g ∧ g ≤ 200 := by omega
  refine Evl.bind alive_evl ?_
  simp only [if_true]
  have out : Evl (fun k => drumlinelaw15_AgesRoot.j0 k l self h g true) true := by
    refine Evl.succ ?_
    simp only [drumlinelaw15_AgesRoot.j0, if_true]
    exact Evl.bind alive_evl (Evl.now fun _ => rfl)
  by_cases e0 : (l.length : Int) = 0
  · simp only [if_pos e0]; exact out
  simp only [if_neg e0]
  by_cases e1 : (l.length : Int) > 6
  · simp only [if_pos e1]; exact out
  simp only [if_neg e1]
  obtain ⟨b, hb, hsm⟩ := small_evl h
  refine Evl.bind hb ?_
  cases b with
  | false => exact out
  | true =>
    have hh := hsm rfl
    refine Evl.succ ?_
    simp only [drumlinelaw15_AgesRoot.j0, Bool.not_true, Bool.false_eq_true, if_false, if_neg e0]
    rw [w64 (x := self) (by omega) (by omega), Int.tmod_eq_emod_of_nonneg s0]
    have t0 := Int.emod_nonneg self (show (l.length : Int) ≠ 0 by omega)
    have t1 := Int.emod_lt_of_pos self (show 0 < (l.length : Int) by omega)
    generalize self % (l.length : Int) = s at t0 t1
    refine Evl.bind (next_evl (l := l) (self := s) (g := g) (h := h) (by omega)) (Evl.bind (alv_evl _ _) (Evl.bind (root_evl _ _) ?_))
    have hlen : ((nx l s h g).length : Int) = l.length := by rw [nx_length]; unfold cut6; omega
    have hat : att (nx l s h g) s (bnd g) = 0 := by
      unfold att
      rw [if_neg (by omega), if_neg (by omega), nx_get (by omega) (by unfold cut6; omega)]
      unfold nxv
      rw [if_pos rfl, bnd_id (by omega) (by omega)]
      unfold mn mx; split <;> split <;> omega
    have hbn : bnd g = g := bnd_id (by omega) (by omega)
    have hbit := (bit_alv (l := nx l s h g) (g := g) t0 (by omega)).2 ⟨by omega, by omega⟩
    obtain ⟨r0, r1, r2, r3⟩ := root_alv (l := nx l s h g) (g := g) t0 (by omega) (by omega) (by omega)
    refine Evl.now fun k => ?_
    rw [wu64 (x := s) (by omega) (by omega), wu64 (x := root (nx l s h g) g) (by omega) (by omega), if_pos t0, if_pos hbit, if_pos (by omega), if_pos r1, if_pos r0, if_pos r2, r3]
    rfl

end Go.Proofs.Ythkagdbabkkomaa.Pure
