/- AgesTells: the ages a cycle later, the parts that are there, the root and the fresh ages are the document's, for whatever ages and lists heard. No conditions. -/
import Derived.Test.YthkagdbabkkomaaPAgesTellsx3
import Derived.Test.YthkagdbabkkomaaPlain
set_option linter.unusedVariables false
set_option linter.unusedSimpArgs false
namespace Go.Proofs.Ythkagdbabkkomaa.Pure
open Go.RowKit Go.Proofs.Ythkagdbabkkomaa.PAgesTells Go.Proofs.YthkagdbabkkomaaW.PrintWords Go.Proofs.YthkagdbabkkomaaW.PrintLast Go.Proofs.YthkagdbabkkomaaW.PrintMore Go.Proofs.Ythkagdbabkkomaa.Plain

theorem alive_evl : Evl (fun k => drumlinelaw15_alive.f k) true :=
  Evl.mono (fun k => drumlinelaw15_alive.mono k) (n := 40) (by decide +kernel)
theorem bound_eq (g : Int) : ages_bound.f g = some (bnd g) := rfl
theorem at_eq (l : List Int) (i g : Int) : ages_at.f l i g = some (att l i g) := by
  unfold ages_at.f att
  by_cases h : i < 0
  · rw [if_pos h, if_pos h]
  · rw [if_neg h, if_neg h]
    by_cases h2 : i ≥ (l.length : Int)
    · rw [if_pos h2, if_pos h2]
    · rw [if_neg h2, if_neg h2, if_pos (by omega), if_pos (by omega)]
theorem next_inner {l : List Int} {self g i m : Int} {h : List (List Int)} {acc R : List Int} (hg0 : 0 ≤ g) (hg1 : g ≤ 201) (hh : h.length ≤ 1000) (hacc : acc.length ≤ 100) (d : Nat) :
    ∀ (j n : Int), 0 ≤ j → j + d = h.length → 0 ≤ n → n ≤ 202 →
      Evl (fun k => ages_Next.l0 k l self h g (acc ++ [if i = self then 0 else mn (inn (h.drop j.toNat) i g n) g]) m (wrap64 (i + 1))) R →
      Evl (fun k => ages_Next.l1 k l self h g acc i n m i h (h.length : Int) j) R := by
  induction d with
  | zero =>
    intro j n h0 h1 hn0 hn1 H
    rw [List.drop_eq_nil_of_le (by omega)] at H
    refine Evl.step (fun k => ?_) H
    simp only [ages_Next.l1]
    rw [if_neg (by omega)]
    by_cases e : i = self
    · rw [if_pos e, if_pos (by omega), if_pos e]
    · rw [if_neg e, if_pos (by omega), if_neg e]
      rfl
  | succ d ih =>
    intro j n h0 h1 hn0 hn1 H
    have ha := att_bd (l := rd_L1 h j) (i := i) hg0
    have hm : 0 ≤ mn n (att (rd_L1 h j) i g + 1) ∧ mn n (att (rd_L1 h j) i g + 1) ≤ n := by unfold mn; split <;> omega
    refine Evl.step (fun k => ?_) (ih (j + 1) (mn n (att (rd_L1 h j) i g + 1)) (by omega) (by omega) hm.1 (by omega) ?_)
    · simp only [ages_Next.l1]
      rw [if_pos (by omega), if_pos (by omega), if_pos (by omega), at_eq]
      simp only [Option.bind_some]
      rw [w64 (x := att (rd_L1 h j) i g + 1) (by omega) (by omega), w64 (x := j + 1) (by omega) (by omega)]
    · rw [drop_cons (z := []) (by omega)] at H
      rw [show (j + 1).toNat = j.toNat + 1 by omega]
      exact H
theorem next_outer {l : List Int} {self g : Int} {h : List (List Int)} (hg0 : 0 ≤ g) (hg1 : g ≤ 201) (hh : h.length ≤ 1000) (d : Nat) :
    ∀ (i : Int) (acc : List Int) (m : Int), 0 ≤ i → i + d = m → m ≤ 6 → acc.length ≤ i →
      Evl (fun k => ages_Next.l0 k l self h g acc m i) (acc ++ nxs l self h g d i) := by
  induction d with
  | zero =>
    intro i acc m h0 h1 h2 h3
    refine Evl.stop (fun k => ?_)
    simp only [ages_Next.l0, nxs, List.append_nil]
    rw [if_neg (by omega)]
  | succ d ih =>
    intro i acc m h0 h1 h2 h3
    have ha := att_bd (l := l) (i := i) hg0
    have H := ih (i + 1) (acc ++ [nxv l self h g i]) m (by omega) (by omega) h2 (by simp; omega)
    rw [List.append_assoc] at H
    have := next_inner (l := l) (self := self) (i := i) (m := m) (acc := acc) hg0 hg1 hh (by omega) h.length 0 (att l i g + 1) (by omega) (by omega) (by omega) (by omega)
      (R := acc ++ nxs l self h g (d + 1) i) (by
        rw [w64 (x := i + 1) (by omega) (by omega)]
        exact H)
    refine Evl.step (fun k => ?_) this
    simp only [ages_Next.l0]
    rw [if_pos (by omega), at_eq]
    simp only [Option.bind_some]
    rw [w64 (x := att l i g + 1) (by omega) (by omega)]
theorem next_evl {l : List Int} {self g : Int} {h : List (List Int)} (hh : h.length ≤ 1000) : Evl (fun k => ages_Next.f k l self h g) (nx l self h g) := by
  have hb := bnd_bd g
  have hc : mn (l.length : Int) 6 = (cut6 l : Int) := by unfold mn cut6; split <;> omega
  have := next_outer (l := l) (self := self) hb.1 hb.2 hh (cut6 l) 0 [] (cut6 l) (by omega) (by omega) (by unfold cut6; omega) (by simp)
  refine Evl.congr (fun k => ?_) this
  unfold ages_Next.f
  rw [bound_eq, hc]
  rfl

theorem alive_outer {l : List Int} {g : Int} (d : Nat) :
    ∀ (i m : Int) (n : Int), 0 ≤ i → i + d = n → n ≤ 6 → Evl (fun k => ages_Alive.l0 k l g m n i) (mk l (bnd g) d i m) := by
  induction d with
  | zero =>
    intro i m n h0 h1 h2
    refine Evl.stop (fun k => ?_)
    simp only [ages_Alive.l0, mk]
    rw [if_neg (by omega)]
  | succ d ih =>
    intro i m n h0 h1 h2
    refine Evl.step (fun k => ?_) (ih (i + 1) (if att l i (bnd g) < bnd g then Go.bits .or .i64 m (shl .i64 1 i) else m) n (by omega) (by omega) h2)
    simp only [ages_Alive.l0]
    rw [if_pos (by omega), bound_eq]
    simp only [Option.bind_some]
    rw [at_eq]
    simp only [Option.bind_some]
    rw [w64 (x := i + 1) (by omega) (by omega)]
    by_cases e : att l i (bnd g) < bnd g
    · rw [if_pos e, if_pos (by omega), if_pos e]
    · rw [if_neg e, if_neg e]
theorem alv_evl (l : List Int) (g : Int) : Evl (fun k => ages_Alive.f k l g) (alv l g) := by
  have hc : mn (l.length : Int) 6 = (cut6 l : Int) := by unfold mn cut6; split <;> omega
  refine Evl.congr (fun k => ?_) (alive_outer (l := l) (g := g) (cut6 l) 0 0 (cut6 l) (by omega) (by omega) (by unfold cut6; omega))
  unfold ages_Alive.f
  rw [hc]
theorem root_outer {m : Int} (d : Nat) : ∀ i : Int, 0 ≤ i → i + d = 6 → Evl (fun k => ages_Root.l0 k m i) (rt m d i) := by
  induction d with
  | zero =>
    intro i h0 h1
    refine Evl.stop (fun k => ?_)
    simp only [ages_Root.l0, rt]
    rw [if_neg (by omega)]
  | succ d ih =>
    intro i h0 h1
    by_cases e : Go.bits .and .i64 (shr .i64 m i) 1 = 1
    · refine Evl.stop (fun k => ?_)
      simp only [ages_Root.l0, rt]
      rw [if_pos (by omega), if_pos (by omega), if_pos e, if_pos e]
    · refine Evl.step (fun k => ?_) (show Evl _ (rt m (d + 1) i) by unfold rt; rw [if_neg e]; exact ih (i + 1) (by omega) (by omega))
      simp only [ages_Root.l0]
      rw [if_pos (by omega), if_pos (by omega), if_neg e, w64 (x := i + 1) (by omega) (by omega)]
theorem root_evl (l : List Int) (g : Int) : Evl (fun k => ages_Root.f k l g) (root l g) := by
  unfold ages_Root.f
  exact Evl.bind (alv_evl l g) (root_outer 6 0 (by omega) (by omega))

theorem small_outer {h : List (List Int)} (hh : h.length ≤ 30) (d : Nat) : ∀ j : Int, 0 ≤ j → j + d = h.length → ∃ b, Evl (fun k => drumlinelaw15_small.l0 k h j) b := by
  induction d with
  | zero =>
    intro j h0 h1
    refine ⟨true, Evl.stop (fun k => ?_)⟩
    simp only [drumlinelaw15_small.l0]
    rw [if_neg (by omega)]
  | succ d ih =>
    intro j h0 h1
    by_cases e : ((rd_L1 h j).length : Int) > 30
    · refine ⟨false, Evl.stop (fun k => ?_)⟩
      simp only [drumlinelaw15_small.l0]
      rw [if_pos (by omega), if_pos (by omega), if_pos e]
    · obtain ⟨b, hb⟩ := ih (j + 1) (by omega) (by omega)
      refine ⟨b, Evl.step (fun k => ?_) hb⟩
      simp only [drumlinelaw15_small.l0]
      rw [if_pos (by omega), if_pos (by omega), if_neg e, w64 (x := j + 1) (by omega) (by omega)]
/-- Whether lists are few: it answers, and where it says so they are. -/
theorem small_evl (h : List (List Int)) : ∃ b, Evl (fun k => drumlinelaw15_small.f k h) b ∧ (b = true → h.length ≤ 30) := by
  unfold drumlinelaw15_small.f
  by_cases e : (h.length : Int) > 30
  · simp only [if_pos e]
    exact ⟨false, Evl.now fun _ => rfl, fun h => by simp at h⟩
  · simp only [if_neg e]
    obtain ⟨b, hb⟩ := small_outer (h := h) (by omega) h.length 0 (by omega) (by omega)
    exact ⟨b, hb, fun _ => by omega⟩

theorem ref_inner {l : List Int} {self g i : Int} {h : List (List Int)} {acc R : List Int} (hg0 : 0 ≤ g) (hg1 : g ≤ 201) (hh : h.length ≤ 1000) (hacc : acc.length ≤ 100) (d : Nat) :
    ∀ (j n : Int), 0 ≤ j → j + d = h.length → 0 ≤ n → n ≤ 201 →
      Evl (fun k => drumlineref10_Next.l0 k l self h (acc ++ [if i = self then 0 else mn (inn (h.drop j.toNat) i g (n + 1)) g]) g (wrap64 (i + 1))) R →
      Evl (fun k => drumlineref10_Next.l1 k l self h acc g i n j) R := by
  induction d with
  | zero =>
    intro j n h0 h1 hn0 hn1 H
    rw [List.drop_eq_nil_of_le (by omega)] at H
    refine Evl.step (fun k => ?_) H
    simp only [drumlineref10_Next.l1]
    rw [if_neg (by omega)]
    by_cases e : i = self
    · rw [if_pos e, if_pos (by omega), if_pos e]
    · rw [if_neg e, if_pos (by omega), if_neg e, w64 (x := n + 1) (by omega) (by omega)]
      rfl
  | succ d ih =>
    intro j n h0 h1 hn0 hn1 H
    have ha := att_bd (l := rd_L1 h j) (i := i) hg0
    have hm : 0 ≤ mn n (att (rd_L1 h j) i g) ∧ mn n (att (rd_L1 h j) i g) ≤ n := by unfold mn; split <;> omega
    have he : mn n (att (rd_L1 h j) i g) + 1 = mn (n + 1) (att (rd_L1 h j) i g + 1) := by unfold mn; split <;> split <;> omega
    refine Evl.step (fun k => ?_) (ih (j + 1) (mn n (att (rd_L1 h j) i g)) (by omega) (by omega) hm.1 (by omega) ?_)
    · simp only [drumlineref10_Next.l1]
      have e1 : drumlineref10_age.f (rd_L1 h j) i g = some (att (rd_L1 h j) i g) := at_eq (rd_L1 h j) i g
      rw [if_pos (by omega), if_pos (by omega), e1]
      simp only [Option.bind_some]
      rw [w64 (x := j + 1) (by omega) (by omega)]
    · rw [drop_cons (z := []) (by omega)] at H
      rw [show (j + 1).toNat = j.toNat + 1 by omega, he]
      exact H
theorem ref_outer {l : List Int} {self g : Int} {h : List (List Int)} (hg0 : 0 ≤ g) (hg1 : g ≤ 201) (hh : h.length ≤ 1000) (d : Nat) :
    ∀ (i : Int) (acc : List Int), 0 ≤ i → i + d = cut6 l → acc.length ≤ i →
      Evl (fun k => drumlineref10_Next.l0 k l self h acc g i) (acc ++ nxs l self h g d i) := by
  have hc : (cut6 l : Int) ≤ 6 ∧ (cut6 l : Int) ≤ l.length := by unfold cut6; omega
  induction d with
  | zero =>
    intro i acc h0 h1 h3
    refine Evl.step (h := fun k => drumlineref10_Next.j1 k l self h acc g i false) (fun k => ?_) (Evl.stop (fun k => ?_))
    · simp only [drumlineref10_Next.l0]
      by_cases e : i < (l.length : Int)
      · rw [if_pos e, decide_eq_false (by unfold cut6 at h1; omega)]
      · rw [if_neg e]
    · simp only [drumlineref10_Next.j1, nxs, List.append_nil]
      rw [if_neg (by simp)]
  | succ d ih =>
    intro i acc h0 h1 h3
    have ha := att_bd (l := l) (i := i) hg0
    have H := ih (i + 1) (acc ++ [nxv l self h g i]) (by omega) (by omega) (by simp; omega)
    rw [List.append_assoc] at H
    have := ref_inner (l := l) (self := self) (i := i) (acc := acc) hg0 hg1 hh (by omega) h.length 0 (att l i g) (by omega) (by omega) (by omega) (by omega)
      (R := acc ++ nxs l self h g (d + 1) i) (by
        rw [w64 (x := i + 1) (by omega) (by omega)]
        exact H)
    refine Evl.step (h := fun k => drumlineref10_Next.j1 k l self h acc g i true) (fun k => ?_) (Evl.step (fun k => ?_) this)
    · simp only [drumlineref10_Next.l0]
      rw [if_pos (by omega), decide_eq_true (by omega)]
    · simp only [drumlineref10_Next.j1]
      have e1 : drumlineref10_age.f l i g = some (att l i g) := at_eq l i g
      simp only [if_true]
      rw [e1]
      rfl
theorem ref_evl {l : List Int} {self g : Int} {h : List (List Int)} (hh : h.length ≤ 1000) : Evl (fun k => drumlineref10_Next.f k l self h g) (nx l self h g) := by
  have hb := bnd_bd g
  have := ref_outer (l := l) (self := self) hb.1 hb.2 hh (cut6 l) 0 [] (by omega) (by omega) (by simp)
  refine Evl.congr (fun k => ?_) this
  unfold drumlineref10_Next.f
  have e : drumlineref10_bound.f g = some (bnd g) := rfl
  rw [e]
  rfl
theorem same_outer {a b : List Int} (hl : a.length = b.length) (hn : a.length ≤ 1000) (he : a = b) (d : Nat) : ∀ j : Int, 0 ≤ j → j + d = a.length → Evl (fun k => drumlineref1_SameInts.l0 k a b j) true := by
  subst he
  induction d with
  | zero =>
    intro j h0 h1
    refine Evl.stop (fun k => ?_)
    simp only [drumlineref1_SameInts.l0]
    rw [if_neg (by omega)]
  | succ d ih =>
    intro j h0 h1
    refine Evl.step (fun k => ?_) (ih (j + 1) (by omega) (by omega))
    simp only [drumlineref1_SameInts.l0]
    rw [if_pos (by omega), if_pos (by omega), if_pos (by omega), w64 (x := j + 1) (by omega) (by omega)]
    simp only [if_true]
theorem same_evl {a : List Int} (hn : a.length ≤ 1000) : Evl (fun k => drumlineref1_SameInts.f k a a) true := by
  unfold drumlineref1_SameInts.f
  simp only [if_true]
  exact same_outer rfl hn rfl a.length 0 (by omega) (by omega)
theorem ralive_outer {l : List Int} {g : Int} (d : Nat) :
    ∀ (i m : Int), 0 ≤ i → i + d = cut6 l → Evl (fun k => drumlineref10_Alive.l0 k l m (bnd g) i) (mk l (bnd g) d i m) := by
  have hc : (cut6 l : Int) ≤ 6 ∧ (cut6 l : Int) ≤ l.length := by unfold cut6; omega
  induction d with
  | zero =>
    intro i m h0 h1
    refine Evl.step (h := fun k => drumlineref10_Alive.j1 k l m (bnd g) i false) (fun k => ?_) (Evl.stop (fun k => ?_))
    · simp only [drumlineref10_Alive.l0]
      by_cases e : i < (l.length : Int)
      · rw [if_pos e, decide_eq_false (by unfold cut6 at h1; omega)]
      · rw [if_neg e]
    · simp only [drumlineref10_Alive.j1, mk]
      rw [if_neg (by simp)]
  | succ d ih =>
    intro i m h0 h1
    refine Evl.step (h := fun k => drumlineref10_Alive.j1 k l m (bnd g) i true) (fun k => ?_) (Evl.step (fun k => ?_) (ih (i + 1) (if att l i (bnd g) < bnd g then Go.bits .or .i64 m (shl .i64 1 i) else m) (by omega) (by omega)))
    · simp only [drumlineref10_Alive.l0]
      rw [if_pos (by omega), decide_eq_true (by omega)]
    · simp only [drumlineref10_Alive.j1]
      have e1 : drumlineref10_age.f l i (bnd g) = some (att l i (bnd g)) := at_eq l i (bnd g)
      simp only [if_true]
      rw [e1]
      simp only [Option.bind_some]
      rw [wu64 (x := i) (by omega) (by omega), w64 (x := i + 1) (by omega) (by omega)]
      by_cases e : att l i (bnd g) < bnd g
      · rw [if_pos e, if_pos (by omega), if_pos e]
      · rw [if_neg e, if_neg e]
theorem ralv_evl (l : List Int) (g : Int) : Evl (fun k => drumlineref10_Alive.f k l g) (alv l g) := by
  refine Evl.congr (fun k => ?_) (ralive_outer (l := l) (g := g) (cut6 l) 0 0 (by omega) (by omega))
  unfold drumlineref10_Alive.f
  have e : drumlineref10_bound.f g = some (bnd g) := rfl
  rw [e]
  rfl
theorem rroot_outer {m : Int} (d : Nat) : ∀ i : Int, 0 ≤ i → i + d = 6 → Evl (fun k => drumlineref10_Root.l0 k m i) (rt m d i) := by
  induction d with
  | zero =>
    intro i h0 h1
    refine Evl.stop (fun k => ?_)
    simp only [drumlineref10_Root.l0, rt]
    rw [if_neg (by omega)]
  | succ d ih =>
    intro i h0 h1
    by_cases e : Go.bits .and .i64 (shr .i64 m i) 1 = 1
    · refine Evl.stop (fun k => ?_)
      simp only [drumlineref10_Root.l0, rt]
      rw [wu64 (x := i) (by omega) (by omega), if_pos (by omega), if_pos (by omega), if_pos e, if_pos e]
    · refine Evl.step (fun k => ?_) (show Evl _ (rt m (d + 1) i) by unfold rt; rw [if_neg e]; exact ih (i + 1) (by omega) (by omega))
      simp only [drumlineref10_Root.l0]
      rw [wu64 (x := i) (by omega) (by omega), if_pos (by omega), if_pos (by omega), if_neg e, w64 (x := i + 1) (by omega) (by omega)]
theorem rroot_evl (l : List Int) (g : Int) : Evl (fun k => drumlineref10_Root.f k l g) (root l g) := by
  unfold drumlineref10_Root.f
  exact Evl.bind (ralv_evl l g) (rroot_outer 6 0 (by omega) (by omega))
theorem fresh_outer {self g : Int} (d : Nat) : ∀ (i m : Int) (acc : List Int), 0 ≤ i → (i + d = m ∨ d = 0 ∧ m ≤ i) → m ≤ 6 → acc.length ≤ i → Evl (fun k => ages_Fresh.l0 k self g acc m i) (acc ++ frs self g d i) := by
  induction d with
  | zero =>
    intro i m acc h0 h1 h2 h3
    refine Evl.stop (fun k => ?_)
    simp only [ages_Fresh.l0, frs, List.append_nil]
    rw [if_neg (by omega)]
  | succ d ih =>
    intro i m acc h0 h1 h2 h3
    have H := ih (i + 1) m (acc ++ [if i = self then 0 else bnd g]) (by omega) (by omega) h2 (by simp; omega)
    rw [List.append_assoc] at H
    refine Evl.step (fun k => ?_) H
    simp only [ages_Fresh.l0]
    rw [if_pos (by omega), bound_eq]
    simp only [Option.bind_some]
    rw [w64 (x := i + 1) (by omega) (by omega)]
    by_cases e : i = self
    · rw [if_pos e, if_pos (by omega), if_pos e]
    · rw [if_neg e, if_pos (by omega), if_neg e]
theorem rfresh_outer {self g p : Int} (d : Nat) : ∀ (i : Int) (acc : List Int), 0 ≤ i → (i + d = mn p 6 ∨ d = 0 ∧ mn p 6 ≤ i) → acc.length ≤ i → Evl (fun k => drumlineref10_Fresh.l0 k p self g acc i) (acc ++ frs self g d i) := by
  have hm : mn p 6 ≤ 6 ∧ mn p 6 ≤ p := by unfold mn; split <;> omega
  induction d with
  | zero =>
    intro i acc h0 h1 h3
    refine Evl.step (h := fun k => drumlineref10_Fresh.j1 k p self g acc i false) (fun k => ?_) (Evl.stop (fun k => ?_))
    · simp only [drumlineref10_Fresh.l0]
      by_cases e : i < p
      · rw [if_pos e, decide_eq_false (by have : mn p 6 ≤ i := (by omega); unfold mn at this; split at this <;> omega)]
      · rw [if_neg e]
    · simp only [drumlineref10_Fresh.j1, frs, List.append_nil]
      rw [if_neg (by simp)]
  | succ d ih =>
    intro i acc h0 h1 h3
    have H := ih (i + 1) (acc ++ [if i = self then 0 else bnd g]) (by omega) (by omega) (by simp; omega)
    rw [List.append_assoc] at H
    refine Evl.step (h := fun k => drumlineref10_Fresh.j1 k p self g acc i true) (fun k => ?_) (Evl.step (fun k => ?_) H)
    · simp only [drumlineref10_Fresh.l0]
      rw [if_pos (by omega), decide_eq_true (by omega)]
    · simp only [drumlineref10_Fresh.j1]
      have e1 : drumlineref10_bound.f g = some (bnd g) := rfl
      simp only [if_true]
      rw [e1]
      simp only [Option.bind_some]
      rw [w64 (x := i + 1) (by omega) (by omega)]
      by_cases e : i = self
      · rw [if_pos e, if_pos (by omega), if_pos e]
      · rw [if_neg e, if_pos (by omega), if_neg e]
theorem frs_length {self g : Int} : ∀ (d : Nat) (i : Int), (frs self g d i).length = d
  | 0, _ => rfl
  | d + 1, i => by simp [frs, frs_length d (i + 1)]
theorem fresh_both (p self g : Int) : ∃ r : List Int, r.length ≤ 6 ∧ Evl (fun k => ages_Fresh.f k p self g) r ∧ Evl (fun k => drumlineref10_Fresh.f k p self g) r := by
  have hm : mn p 6 ≤ 6 := by unfold mn; split <;> omega
  refine ⟨frs self g (mn p 6).toNat 0, by rw [frs_length]; omega, ?_, ?_⟩
  · exact fresh_outer (self := self) (g := g) (mn p 6).toNat 0 (mn p 6) [] (by omega) (by omega) hm (by simp)
  · exact rfresh_outer (self := self) (g := g) (p := p) (mn p 6).toNat 0 [] (by omega) (by omega) (by simp)
theorem tells_evl (l : List Int) (self : Int) (h : List (List Int)) (g : Int) (hh : h.length ≤ 30) : Evl (fun k => drumlinelaw15_AgesTells.j0 k l self h g false) true := by
  obtain ⟨r1, b1, p1, q1⟩ := fresh_both self (l.length : Int) g
  obtain ⟨r2, b2, p2, q2⟩ := fresh_both (l.length : Int) self g
  have hl : (nx l self h g).length ≤ 1000 := by rw [nx_length]; unfold cut6; omega
  refine Evl.succ ?_
  simp only [drumlinelaw15_AgesTells.j0, Bool.false_eq_true, if_false]
  refine Evl.bind (next_evl (l := l) (self := self) (g := g) (h := h) (by omega)) (Evl.bind (ref_evl (l := l) (self := self) (g := g) (h := h) (by omega)) (Evl.bind (same_evl hl) ?_))
  simp only [if_true]
  refine Evl.bind (alv_evl l g) (Evl.bind (ralv_evl l g) ?_)
  simp only [if_true]
  refine Evl.bind (root_evl l g) (Evl.bind (rroot_evl l g) ?_)
  simp only [if_true]
  refine Evl.bind p1 (Evl.bind q1 (Evl.bind (same_evl (by omega)) ?_))
  simp only [if_true]
  refine Evl.bind p2 (Evl.bind q2 (Evl.bind (same_evl (by omega)) ?_))
  exact Evl.now fun _ => rfl
theorem AgesTells (l : List Int) (self : Int) (h : List (List Int)) (g : Int) (_ : (∀ x ∈ l, (fun n => (Lit.int .i64 n).wf = true) x) ∧ l.length ≤ 9223372036854775807) (_ : (Lit.int .i64 self).wf = true)
    (_ : (∀ x ∈ h, (fun l => (∀ x ∈ l, (fun n => (Lit.int .i64 n).wf = true) x) ∧ l.length ≤ 9223372036854775807) x) ∧ h.length ≤ 9223372036854775807) (_ : (Lit.int .i64 g).wf = true) :
    ∃ k, drumlinelaw15_AgesTells.f k l self h g = some true := by
  refine Evl.some_ ?_
  unfold drumlinelaw15_AgesTells.f
  refine Evl.bind alive_evl ?_
  simp only [if_true]
  have out : Evl (fun k => drumlinelaw15_AgesTells.j0 k l self h g true) true := by
    refine Evl.step (h := fun k => (drumlinelaw15_alive.f k).bind fun t => some t) (fun k => ?_) (Evl.bind alive_evl (Evl.now fun _ => rfl))
    simp only [drumlinelaw15_AgesTells.j0, if_true]
  by_cases e : (l.length : Int) > 30
  · simp only [if_pos e]; exact out
  · simp only [if_neg e]
    obtain ⟨b, hb, hs⟩ := small_evl h
    refine Evl.bind hb ?_
    cases b with
    | true => exact tells_evl l self h g (hs rfl)
    | false => exact out

end Go.Proofs.Ythkagdbabkkomaa.Pure
