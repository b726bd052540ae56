/- What ages' functions come to, for AgesOrder: Next, small, SameInts. -/
import Derived.Test.YthkagdbabkkomaaMAox3
import Derived.Test.YthkagdbabkkomaaMAox6
import Derived.Test.YthkagdbabkkomaaMAox7
import Derived.Test.YthkagdbabkkomaaMAox8
import Derived.Test.YthkagdbabkkomaaPlain
set_option linter.unusedVariables false
set_option linter.unusedSimpArgs false
namespace Go.Proofs.Ythkagdbabkkomaa.Ord
open Go.RowKit Go.Proofs.Ythkagdbabkkomaa.MAo Go.Proofs.YthkagdbabkkomaaW.PrintWords Go.Proofs.YthkagdbabkkomaaW.PrintLast Go.Proofs.YthkagdbabkkomaaW.PrintMore Go.Proofs.Ythkagdbabkkomaa.Plain

theorem alive_evl : Evl (fun k => drumlinelaw15_alive.f k) true :=
  Evl.mono (fun k => drumlinelaw15_alive.mono k) (n := 40) (by decide +kernel)
theorem bound_eq (g : Int) : ages_bound.f g = some (bnd g) := rfl
theorem at_eq (l : List Int) (i g : Int) : ages_at.f l i g = some (att l i g) := by
  unfold ages_at.f att
  by_cases h : i < 0
  · rw [if_pos h, if_pos h]
  · rw [if_neg h, if_neg h]
    by_cases h2 : i ≥ (l.length : Int)
    · rw [if_pos h2, if_pos h2]
    · rw [if_neg h2, if_neg h2, if_pos (by omega), if_pos (by omega)]
theorem next_inner {l : List Int} {self g i m : Int} {h : List (List Int)} {acc R : List Int} (hg0 : 0 ≤ g) (hg1 : g ≤ 201) (hh : h.length ≤ 1000) (hacc : acc.length ≤ 100) (d : Nat) :
    ∀ (j n : Int), 0 ≤ j → j + d = h.length → 0 ≤ n → n ≤ 202 →
      Evl (fun k => ages_Next.l0 k l self h g (acc ++ [if i = self then 0 else mn (inn (h.drop j.toNat) i g n) g]) m (wrap64 (i + 1))) R →
      Evl (fun k => ages_Next.l1 k l self h g acc i n m i h (h.length : Int) j) R := by
  induction d with
  | zero =>
    intro j n h0 h1 hn0 hn1 H
    rw [List.drop_eq_nil_of_le (by omega)] at H
    refine Evl.step (fun k => ?_) H
    simp only [ages_Next.l1]
    rw [if_neg (by omega)]
    by_cases e : i = self
    · rw [if_pos e, if_pos (by omega), if_pos e]
    · rw [if_neg e, if_pos (by omega), if_neg e]
      rfl
  | succ d ih =>
    intro j n h0 h1 hn0 hn1 H
    have ha := att_bd (l := rd_L1 h j) (i := i) hg0
    have hm : 0 ≤ mn n (att (rd_L1 h j) i g + 1) ∧ mn n (att (rd_L1 h j) i g + 1) ≤ n := by unfold mn; split <;> omega
    refine Evl.step (fun k => ?_) (ih (j + 1) (mn n (att (rd_L1 h j) i g + 1)) (by omega) (by omega) hm.1 (by omega) ?_)
    · simp only [ages_Next.l1]
      rw [if_pos (by omega), if_pos (by omega), if_pos (by omega), at_eq]
      simp only [Option.bind_some]
      rw [w64 (x := att (rd_L1 h j) i g + 1) (by omega) (by omega), w64 (x := j + 1) (by omega) (by omega)]
    · rw [drop_cons (z := []) (by omega)] at H
      rw [show (j + 1).toNat = j.toNat + 1 by omega]
      exact H
theorem next_outer {l : List Int} {self g : Int} {h : List (List Int)} (hg0 : 0 ≤ g) (hg1 : g ≤ 201) (hh : h.length ≤ 1000) (d : Nat) :
    ∀ (i : Int) (acc : List Int) (m : Int), 0 ≤ i → i + d = m → m ≤ 6 → acc.length ≤ i →
      Evl (fun k => ages_Next.l0 k l self h g acc m i) (acc ++ nxs l self h g d i) := by
  induction d with
  | zero =>
    intro i acc m h0 h1 h2 h3
    refine Evl.stop (fun k => ?_)
    simp only [ages_Next.l0, nxs, List.append_nil]
    rw [if_neg (by omega)]
  | succ d ih =>
    intro i acc m h0 h1 h2 h3
    have ha := att_bd (l := l) (i := i) hg0
    have H := ih (i + 1) (acc ++ [nxv l self h g i]) m (by omega) (by omega) h2 (by simp; omega)
    rw [List.append_assoc] at H
    have := next_inner (l := l) (self := self) (i := i) (m := m) (acc := acc) hg0 hg1 hh (by omega) h.length 0 (att l i g + 1) (by omega) (by omega) (by omega) (by omega)
      (R := acc ++ nxs l self h g (d + 1) i) (by
        rw [w64 (x := i + 1) (by omega) (by omega)]
        exact H)
    refine Evl.step (fun k => ?_) this
    simp only [ages_Next.l0]
    rw [if_pos (by omega), at_eq]
    simp only [Option.bind_some]
    rw [w64 (x := att l i g + 1) (by omega) (by omega)]
theorem next_evl {l : List Int} {self g : Int} {h : List (List Int)} (hh : h.length ≤ 1000) : Evl (fun k => ages_Next.f k l self h g) (nx l self h g) := by
  have hb := bnd_bd g
  have hc : mn (l.length : Int) 6 = (cut6 l : Int) := by unfold mn cut6; split <;> omega
  have := next_outer (l := l) (self := self) hb.1 hb.2 hh (cut6 l) 0 [] (cut6 l) (by omega) (by omega) (by unfold cut6; omega) (by simp)
  refine Evl.congr (fun k => ?_) this
  unfold ages_Next.f
  rw [bound_eq, hc]
  rfl

theorem small_outer {h : List (List Int)} (hh : h.length ≤ 30) (d : Nat) : ∀ j : Int, 0 ≤ j → j + d = h.length → ∃ b, Evl (fun k => drumlinelaw15_small.l0 k h j) b := by
  induction d with
  | zero =>
    intro j h0 h1
    refine ⟨true, Evl.stop (fun k => ?_)⟩
    simp only [drumlinelaw15_small.l0]
    rw [if_neg (by omega)]
  | succ d ih =>
    intro j h0 h1
    by_cases e : ((rd_L1 h j).length : Int) > 30
    · refine ⟨false, Evl.stop (fun k => ?_)⟩
      simp only [drumlinelaw15_small.l0]
      rw [if_pos (by omega), if_pos (by omega), if_pos e]
    · obtain ⟨b, hb⟩ := ih (j + 1) (by omega) (by omega)
      refine ⟨b, Evl.step (fun k => ?_) hb⟩
      simp only [drumlinelaw15_small.l0]
      rw [if_pos (by omega), if_pos (by omega), if_neg e, w64 (x := j + 1) (by omega) (by omega)]
/-- Whether lists are few: it answers, and where it says so they are. -/
theorem small_evl (h : List (List Int)) : ∃ b, Evl (fun k => drumlinelaw15_small.f k h) b ∧ (b = true → h.length ≤ 30) := by
  unfold drumlinelaw15_small.f
  by_cases e : (h.length : Int) > 30
  · simp only [if_pos e]
    exact ⟨false, Evl.now fun _ => rfl, fun h => by simp at h⟩
  · simp only [if_neg e]
    obtain ⟨b, hb⟩ := small_outer (h := h) (by omega) h.length 0 (by omega) (by omega)
    exact ⟨b, hb, fun _ => by omega⟩

theorem same_outer {a b : List Int} (hl : a.length = b.length) (hn : a.length ≤ 1000) (he : a = b) (d : Nat) : ∀ j : Int, 0 ≤ j → j + d = a.length → Evl (fun k => drumlineref1_SameInts.l0 k a b j) true := by
  subst he
  induction d with
  | zero =>
    intro j h0 h1
    refine Evl.stop (fun k => ?_)
    simp only [drumlineref1_SameInts.l0]
    rw [if_neg (by omega)]
  | succ d ih =>
    intro j h0 h1
    refine Evl.step (fun k => ?_) (ih (j + 1) (by omega) (by omega))
    simp only [drumlineref1_SameInts.l0]
    rw [if_pos (by omega), if_pos (by omega), if_pos (by omega), w64 (x := j + 1) (by omega) (by omega)]
    simp only [if_true]
theorem same_evl {a : List Int} (hn : a.length ≤ 1000) : Evl (fun k => drumlineref1_SameInts.f k a a) true := by
  unfold drumlineref1_SameInts.f
  simp only [if_true]
  exact same_outer rfl hn rfl a.length 0 (by omega) (by omega)

/-! ### the order in which lists are heard tells nothing -/
theorem inn_app (a b : List (List Int)) (i g n : Int) : inn (a ++ b) i g n = inn b i g (inn a i g n) := by
  unfold inn; rw [List.foldl_append]
theorem inn_mn (b : List (List Int)) (i g : Int) : ∀ n v : Int, inn b i g (mn n v) = mn (inn b i g n) v := by
  induction b with
  | nil => intro n v; rfl
  | cons l t ih =>
    intro n v
    show inn t i g (mn (mn n v) (att l i g + 1)) = mn (inn t i g (mn n (att l i g + 1))) v
    have e : mn (mn n v) (att l i g + 1) = mn (mn n (att l i g + 1)) v := by
      generalize att l i g + 1 = u
      unfold mn
      repeat' split
      all_goals omega
    rw [e, ih]
theorem inn_comm (a b : List (List Int)) (i g : Int) : ∀ n : Int, inn a i g (inn b i g n) = inn b i g (inn a i g n) := by
  induction a with
  | nil => intro n; rfl
  | cons l t ih =>
    intro n
    show inn t i g (mn (inn b i g n) (att l i g + 1)) = inn b i g (inn t i g (mn n (att l i g + 1)))
    rw [← inn_mn, ih]
theorem inn_le (b : List (List Int)) (i g : Int) : ∀ n : Int, inn b i g n ≤ n := by
  induction b with
  | nil => intro n; exact Int.le_refl _
  | cons l t ih =>
    intro n
    have h := ih (mn n (att l i g + 1))
    have : mn n (att l i g + 1) ≤ n := by unfold mn; split <;> omega
    exact Int.le_trans h this
theorem nxv_app (l : List Int) (self : Int) (a b : List (List Int)) (g i : Int) : nxv l self (a ++ b) g i = nxv l self (b ++ a) g i := by
  unfold nxv; rw [inn_app, inn_app, inn_comm]
theorem nxv_le (l : List Int) (self : Int) (a b : List (List Int)) (g i : Int) : nxv l self (a ++ b) g i ≤ nxv l self a g i := by
  unfold nxv
  split
  · exact Int.le_refl _
  · rw [inn_app]
    have := inn_le b i g (inn a i g (att l i g + 1))
    unfold mn
    repeat' split
    all_goals omega
theorem nxs_app (l : List Int) (self : Int) (a b : List (List Int)) (g : Int) : ∀ (m : Nat) (i : Int), nxs l self (a ++ b) g m i = nxs l self (b ++ a) g m i
  | 0, _ => rfl
  | m + 1, i => by simp only [nxs]; rw [nxv_app, nxs_app l self a b g m (i + 1)]
theorem nx_app (l : List Int) (self : Int) (a b : List (List Int)) (g : Int) : nx l self (a ++ b) g = nx l self (b ++ a) g := nxs_app _ _ _ _ _ _ _
theorem nx_le {l : List Int} {self : Int} {a b : List (List Int)} {g i : Int} (h0 : 0 ≤ i) (h1 : i < cut6 l) : rd (nx l self (a ++ b) g) i ≤ rd (nx l self a g) i := by
  rw [nx_get h0 h1, nx_get h0 h1]; exact nxv_le _ _ _ _ _ _
end Go.Proofs.Ythkagdbabkkomaa.Ord
