/- AgesGrow: no part's age goes up by more than one; it is the least heard and one, at most gone; one's own is 0. No conditions. -/
import Derived.Test.YthkagdbabkkomaaGuAgesGrow
import Derived.Test.YthkagdbabkkomaaPlain
set_option linter.unusedVariables false
set_option linter.unusedSimpArgs false
namespace Go.Proofs.Ythkagdbabkkomaa.Pure
open Go.RowKit Go.Proofs.Ythkagdbabkkomaa.PAgesGrow Go.Proofs.YthkagdbabkkomaaW.PrintWords Go.Proofs.YthkagdbabkkomaaW.PrintLast Go.Proofs.YthkagdbabkkomaaW.PrintMore Go.Proofs.Ythkagdbabkkomaa.Plain

theorem alive_evl : Evl (fun k => drumlinelaw15_alive.f k) true :=
  Evl.mono (fun k => drumlinelaw15_alive.mono k) (n := 40) (by decide +kernel)
theorem bound_eq (g : Int) : ages_bound.f g = some (bnd g) := rfl
theorem at_eq (l : List Int) (i g : Int) : ages_at.f l i g = some (att l i g) := by
  unfold ages_at.f att
  by_cases h : i < 0
  · rw [if_pos h, if_pos h]
  · rw [if_neg h, if_neg h]
    by_cases h2 : i ≥ (l.length : Int)
    · rw [if_pos h2, if_pos h2]
    · rw [if_neg h2, if_neg h2, if_pos (by omega), if_pos (by omega)]
theorem next_inner {l : List Int} {self g i m : Int} {h : List (List Int)} {acc R : List Int} (hg0 : 0 ≤ g) (hg1 : g ≤ 201) (hh : h.length ≤ 1000) (hacc : acc.length ≤ 100) (d : Nat) :
    ∀ (j n : Int), 0 ≤ j → j + d = h.length → 0 ≤ n → n ≤ 202 →
      Evl (fun k => ages_Next.l0 k l self h g (acc ++ [if i = self then 0 else mn (inn (h.drop j.toNat) i g n) g]) m (wrap64 (i + 1))) R →
      Evl (fun k => ages_Next.l1 k l self h g acc i n m i h (h.length : Int) j) R := by
  induction d with
  | zero =>
    intro j n h0 h1 hn0 hn1 H
    rw [List.drop_eq_nil_of_le (by omega)] at H
    refine Evl.step (fun k => ?_) H
    simp only [ages_Next.l1]
    rw [if_neg (by omega)]
    by_cases e : i = self
    · rw [if_pos e, if_pos (by omega), if_pos e]
    · rw [if_neg e, if_pos (by omega), if_neg e]
      rfl
  | succ d ih =>
    intro j n h0 h1 hn0 hn1 H
    have ha := att_bd (l := rd_L1 h j) (i := i) hg0
    have hm : 0 ≤ mn n (att (rd_L1 h j) i g + 1) ∧ mn n (att (rd_L1 h j) i g + 1) ≤ n := by unfold mn; split <;> omega
    refine Evl.step (fun k => ?_) (ih (j + 1) (mn n (att (rd_L1 h j) i g + 1)) (by omega) (by omega) hm.1 (by omega) ?_)
    · simp only [ages_Next.l1]
      rw [if_pos (by omega), if_pos (by omega), if_pos (by omega), at_eq]
      simp only [Option.bind_some]
      rw [w64 (x := att (rd_L1 h j) i g + 1) (by omega) (by omega), w64 (x := j + 1) (by omega) (by omega)]
    · rw [drop_cons (z := []) (by omega)] at H
      rw [show (j + 1).toNat = j.toNat + 1 by omega]
      exact H
theorem next_outer {l : List Int} {self g : Int} {h : List (List Int)} (hg0 : 0 ≤ g) (hg1 : g ≤ 201) (hh : h.length ≤ 1000) (d : Nat) :
    ∀ (i : Int) (acc : List Int) (m : Int), 0 ≤ i → i + d = m → m ≤ 6 → acc.length ≤ i →
      Evl (fun k => ages_Next.l0 k l self h g acc m i) (acc ++ nxs l self h g d i) := by
  induction d with
  | zero =>
    intro i acc m h0 h1 h2 h3
    refine Evl.stop (fun k => ?_)
    simp only [ages_Next.l0, nxs, List.append_nil]
    rw [if_neg (by omega)]
  | succ d ih =>
    intro i acc m h0 h1 h2 h3
    have ha := att_bd (l := l) (i := i) hg0
    have H := ih (i + 1) (acc ++ [nxv l self h g i]) m (by omega) (by omega) h2 (by simp; omega)
    rw [List.append_assoc] at H
    have := next_inner (l := l) (self := self) (i := i) (m := m) (acc := acc) hg0 hg1 hh (by omega) h.length 0 (att l i g + 1) (by omega) (by omega) (by omega) (by omega)
      (R := acc ++ nxs l self h g (d + 1) i) (by
        rw [w64 (x := i + 1) (by omega) (by omega)]
        exact H)
    refine Evl.step (fun k => ?_) this
    simp only [ages_Next.l0]
    rw [if_pos (by omega), at_eq]
    simp only [Option.bind_some]
    rw [w64 (x := att l i g + 1) (by omega) (by omega)]
theorem next_evl {l : List Int} {self g : Int} {h : List (List Int)} (hh : h.length ≤ 1000) : Evl (fun k => ages_Next.f k l self h g) (nx l self h g) := by
  have hb := bnd_bd g
  have hc : mn (l.length : Int) 6 = (cut6 l : Int) := by unfold mn cut6; split <;> omega
  have := next_outer (l := l) (self := self) hb.1 hb.2 hh (cut6 l) 0 [] (cut6 l) (by omega) (by omega) (by unfold cut6; omega) (by simp)
  refine Evl.congr (fun k => ?_) this
  unfold ages_Next.f
  rw [bound_eq, hc]
  rfl

/-- A heard byte as an age. -/
def cap (g v : Int) : Int := mn (wrap64 v) g
theorem cap_bd {g v : Int} (h0 : 0 ≤ v) (h1 : v ≤ 255) (hg : 0 ≤ g) : 0 ≤ cap g v ∧ cap g v ≤ g := by
  unfold cap mn
  rw [w64 (by omega) (by omega)]
  split <;> omega
/-- The least age that was heard of a part. -/
def lst (h : List (List Int)) (i n : Int) : Int := h.foldl (fun n l => if i < (l.length : Int) then mn n (rd l i) else n) n
theorem inn_lst {g i : Int} (h0 : 0 ≤ i) (hg : 0 ≤ g) : ∀ (h : List (List Int)) (n : Int), (∀ l ∈ h, ∀ v ∈ l, 0 ≤ v ∧ v ≤ g) → 0 ≤ n → n ≤ g → inn h i g (n + 1) = lst h i n + 1 ∧ 0 ≤ lst h i n ∧ lst h i n ≤ n
  | [], n, _, hn0, hn1 => ⟨rfl, hn0, Int.le_refl _⟩
  | l :: t, n, hl, hn0, hn1 => by
    have e : mn (n + 1) (att l i g + 1) = (if i < (l.length : Int) then mn n (rd l i) else n) + 1 ∧ 0 ≤ (if i < (l.length : Int) then mn n (rd l i) else n) ∧ (if i < (l.length : Int) then mn n (rd l i) else n) ≤ n := by
      by_cases hi : i < (l.length : Int)
      · have hm : rd l i ∈ l := by
          unfold rd
          rw [List.getD_eq_getElem?_getD, List.getElem?_eq_getElem (by omega)]
          simp
        have hb := hl l (by simp) _ hm
        rw [if_pos hi]
        unfold att
        rw [if_neg (by omega), if_neg (by omega)]
        unfold mn mx
        refine ⟨?_, ?_, ?_⟩ <;> (repeat' split) <;> omega
      · rw [if_neg hi]
        unfold att
        rw [if_neg (by omega), if_pos (by omega)]
        unfold mn
        refine ⟨?_, ?_, ?_⟩ <;> (repeat' split) <;> omega
    have ih := inn_lst h0 hg t (if i < (l.length : Int) then mn n (rd l i) else n) (fun l' hl' => hl l' (by simp [hl'])) e.2.1 (by omega)
    show inn t i g (mn (n + 1) (att l i g + 1)) = lst t i (if i < (l.length : Int) then mn n (rd l i) else n) + 1 ∧ 0 ≤ lst t i (if i < (l.length : Int) then mn n (rd l i) else n) ∧ lst t i (if i < (l.length : Int) then mn n (rd l i) else n) ≤ n
    rw [e.1]
    exact ⟨ih.1, ih.2.1, by omega⟩
theorem rd_mem {l : List Int} {i : Int} (h0 : 0 ≤ i) (h1 : i < (l.length : Int)) : rd l i ∈ l := by
  unfold rd
  rw [List.getD_eq_getElem?_getD, List.getElem?_eq_getElem (by omega)]
  simp
theorem grow_least {a x : List Int} {hh : List (List Int)} {s g i : Int} (h0 : 0 ≤ i) (hg : 0 ≤ g) (hg1 : g ≤ 200) (hlen : x.length = a.length) (hla : a.length ≤ 6) (hhh : hh.length ≤ 10) (hi : i < (a.length : Int)) (hgood : ∀ l ∈ hh, ∀ v ∈ l, 0 ≤ v ∧ v ≤ g)
    (d : Nat) : ∀ (j n : Int), 0 ≤ j → j + d = hh.length → 0 ≤ n → n ≤ g → rd x i = mn (lst (hh.drop j.toNat) i n + 1) g →
      Evl (fun k => drumlinelaw15_AgesGrow.l3 k g a hh s x (i + 1)) true → Evl (fun k => drumlinelaw15_AgesGrow.l4 k g a hh s x i n j) true := by
  induction d with
  | zero =>
    intro j n hj0 hj1 hn0 hn1 hx H
    rw [List.drop_eq_nil_of_le (by omega)] at hx
    refine Evl.step (fun k => ?_) H
    simp only [drumlinelaw15_AgesGrow.l4]
    have hx' : rd x i = mn (n + 1) g := hx
    rw [if_neg (by omega), if_pos h0, if_pos (by omega), w64 (x := n + 1) (by omega) (by omega), if_pos hx', w64 (x := i + 1) (by omega) (by omega)]
  | succ d ih =>
    intro j n hj0 hj1 hn0 hn1 hx H
    rw [drop_cons (z := []) (by omega)] at hx
    have hL : rd_L1 hh j ∈ hh := by
      unfold rd_L1
      rw [List.getD_eq_getElem?_getD, List.getElem?_eq_getElem (by omega)]
      simp
    by_cases e : i < ((rd_L1 hh j).length : Int)
    · have hv := hgood _ hL _ (rd_mem h0 e)
      have hm : 0 ≤ mn n (rd (rd_L1 hh j) i) ∧ mn n (rd (rd_L1 hh j) i) ≤ n := by unfold mn; split <;> omega
      refine Evl.step (fun k => ?_) (ih (j + 1) (mn n (rd (rd_L1 hh j) i)) (by omega) (by omega) hm.1 (by omega) ?_ H)
      · simp only [drumlinelaw15_AgesGrow.l4]
        rw [if_pos (by omega), if_pos (by omega), if_pos e, if_pos h0, w64 (x := j + 1) (by omega) (by omega)]
      · rw [show (j + 1).toNat = j.toNat + 1 by omega, hx]
        show mn (lst _ i (if i < ((rd_L1 hh j).length : Int) then mn n (rd (rd_L1 hh j) i) else n) + 1) g = _
        rw [if_pos e]
    · refine Evl.step (fun k => ?_) (ih (j + 1) n (by omega) (by omega) hn0 hn1 ?_ H)
      · simp only [drumlinelaw15_AgesGrow.l4]
        rw [if_pos (by omega), if_pos (by omega), if_neg e, w64 (x := j + 1) (by omega) (by omega)]
      · rw [show (j + 1).toNat = j.toNat + 1 by omega, hx]
        show mn (lst _ i (if i < ((rd_L1 hh j).length : Int) then mn n (rd (rd_L1 hh j) i) else n) + 1) g = _
        rw [if_neg e]
theorem grow_check {a : List Int} {hh : List (List Int)} {s g : Int} (hg : 1 ≤ g) (hg1 : g ≤ 200) (hla : a.length ≤ 6) (hhh : hh.length ≤ 10) (hgood : ∀ l ∈ hh, ∀ v ∈ l, 0 ≤ v ∧ v ≤ g) (hga : ∀ v ∈ a, 0 ≤ v ∧ v ≤ g)
    (d : Nat) : ∀ i : Int, 0 ≤ i → i + d = a.length → Evl (fun k => drumlinelaw15_AgesGrow.l3 k g a hh s (nx a s hh g) i) true := by
  have hb : bnd g = g := bnd_id (by omega) (by omega)
  have hlen : (nx a s hh g).length = a.length := by rw [nx_length]; unfold cut6; omega
  induction d with
  | zero =>
    intro i h0 h1
    refine Evl.stop (fun k => ?_)
    simp only [drumlinelaw15_AgesGrow.l3]
    rw [if_neg (by omega)]
  | succ d ih =>
    intro i h0 h1
    by_cases e : i = s
    · refine Evl.step (fun k => ?_) (ih (i + 1) (by omega) (by omega))
      simp only [drumlinelaw15_AgesGrow.l3]
      rw [if_pos (by omega), if_pos e, w64 (x := i + 1) (by omega) (by omega)]
    · have hv := hga _ (rd_mem (l := a) (i := i) h0 (by omega))
      refine Evl.step (fun k => ?_) (grow_least (a := a) (x := nx a s hh g) (hh := hh) (s := s) (g := g) (i := i) h0 (by omega) hg1 hlen hla hhh (by omega) hgood hh.length 0 (rd a i) (by omega) (by omega) hv.1 hv.2 ?_ (ih (i + 1) (by omega) (by omega)))
      · simp only [drumlinelaw15_AgesGrow.l3]
        rw [if_pos (by omega), if_neg e, if_pos h0]
      · rw [nx_get h0 (by unfold cut6; omega), hb]
        unfold nxv
        rw [if_neg e]
        have ha : att a i g = rd a i := by
          unfold att
          rw [if_neg (by omega), if_neg (by omega)]
          unfold mn mx; (repeat' split) <;> omega
        rw [ha, (inn_lst h0 (by omega) hh (rd a i) hgood hv.1 hv.2).1]
        rfl
theorem grow_end {a : List Int} {heard hh : List (List Int)} {self g : Int} (s0 : 0 ≤ self) (s1 : self ≤ 255) (hg : 1 ≤ g) (hg1 : g ≤ 200) (hl0 : a.length ≠ 0) (hla : a.length ≤ 6) (hhh : hh.length ≤ 10) (hgood : ∀ l ∈ hh, ∀ v ∈ l, 0 ≤ v ∧ v ≤ g) (hga : ∀ v ∈ a, 0 ≤ v ∧ v ≤ g)
    (j : Int) (hj : (heard.length : Int) ≤ j) : Evl (fun k => drumlinelaw15_AgesGrow.l1 k self heard g a hh j) true := by
  refine Evl.succ ?_
  simp only [drumlinelaw15_AgesGrow.l1, if_neg (show ¬ j < (heard.length : Int) by omega), if_neg (show ¬ ((a.length : Int) = 0) by omega)]
  rw [w64 (x := self) (by omega) (by omega), Int.tmod_eq_emod_of_nonneg s0]
  have t0 := Int.emod_nonneg self (show (a.length : Int) ≠ 0 by omega)
  have t1 := Int.emod_lt_of_pos self (show 0 < (a.length : Int) by omega)
  generalize self % (a.length : Int) = s at t0 t1
  refine Evl.bind (next_evl (l := a) (self := s) (g := g) (h := hh) (by omega)) ?_
  have hlen : ((nx a s hh g).length : Int) = a.length := by rw [nx_length]; unfold cut6; omega
  have h0 : rd (nx a s hh g) s = 0 := by
    rw [nx_get t0 (by unfold cut6; omega)]
    unfold nxv
    rw [if_pos rfl]
  simp only [if_pos hlen, if_pos t0, if_pos (show s < ((nx a s hh g).length : Int) by omega), h0]
  refine Evl.succ ?_
  simp only [drumlinelaw15_AgesGrow.j4]
  exact grow_check hg hg1 hla hhh hgood hga a.length 0 (by omega) (by omega)
theorem cap_all {g : Int} (hg : 0 ≤ g) {l : List Int} (hl : ∀ v ∈ l, 0 ≤ v ∧ v ≤ 255) : ∀ v ∈ l.map (cap g), 0 ≤ v ∧ v ≤ g := by
  intro v hv
  obtain ⟨u, hu, rfl⟩ := List.mem_map.1 hv
  exact cap_bd (hl u hu).1 (hl u hu).2 hg
theorem grow_row {a : List Int} {heard hh : List (List Int)} {self g j : Int} (hla : a.length ≤ 6) (hj0 : 0 ≤ j) (hj : j < (heard.length : Int)) (hj9 : j ≤ 20) (hhh : hh.length ≤ 20)
    (d : Nat) : ∀ (i : Int) (acc : List Int), 0 ≤ i → i + d = min a.length (rd_L3 heard j).length → acc.length ≤ i →
      Evl (fun k => drumlinelaw15_AgesGrow.l1 k self heard g a (hh ++ [acc ++ (((rd_L3 heard j).take a.length).drop i.toNat).map (cap g)]) (j + 1)) true → Evl (fun k => drumlinelaw15_AgesGrow.l2 k self heard g a hh j acc i) true := by
  induction d with
  | zero =>
    intro i acc h0 h1 h2 H
    rw [List.drop_eq_nil_of_le (by simp; omega)] at H
    rw [List.map_nil, List.append_nil] at H
    refine Evl.step (fun k => ?_) H
    simp only [drumlinelaw15_AgesGrow.l2]
    by_cases e : i < (a.length : Int)
    · rw [if_pos e, if_pos hj0, if_pos hj, if_neg (by omega), if_pos (by omega), w64 (x := j + 1) (by omega) (by omega)]
    · rw [if_neg e, if_pos (by omega), w64 (x := j + 1) (by omega) (by omega)]
  | succ d ih =>
    intro i acc h0 h1 h2 H
    rw [drop_cons (z := 0) (by simp; omega), List.map_cons] at H
    have er : ((rd_L3 heard j).take a.length).getD i.toNat 0 = rd (rd_L3 heard j) i := by
      unfold rd
      rw [List.getD_eq_getElem?_getD, List.getD_eq_getElem?_getD, List.getElem?_take_of_lt (by omega)]
    rw [er] at H
    refine Evl.step (fun k => ?_) (ih (i + 1) (acc ++ [cap g (rd (rd_L3 heard j) i)]) (by omega) (by omega) (by simp; omega) ?_)
    · simp only [drumlinelaw15_AgesGrow.l2]
      rw [if_pos (by omega), if_pos hj0, if_pos hj, if_pos (by omega), if_pos h0, if_pos (by omega), w64 (x := i + 1) (by omega) (by omega)]
      rfl
    · rw [show (i + 1).toNat = i.toNat + 1 by omega, List.append_assoc]
      exact H
theorem grow_rows {a : List Int} {heard : List (List Int)} {self g : Int} (hhl : heard.length ≤ 10) (hbytes : ∀ l ∈ heard, ∀ v ∈ l, 0 ≤ v ∧ v ≤ 255) (s0 : 0 ≤ self) (s1 : self ≤ 255) (hg : 1 ≤ g) (hg1 : g ≤ 200) (hl0 : a.length ≠ 0) (hla : a.length ≤ 6) (hga : ∀ v ∈ a, 0 ≤ v ∧ v ≤ g)
    (d : Nat) : ∀ (j : Int) (hh : List (List Int)), 0 ≤ j → j + d = heard.length → hh.length = j → (∀ l ∈ hh, ∀ v ∈ l, 0 ≤ v ∧ v ≤ g) → Evl (fun k => drumlinelaw15_AgesGrow.l1 k self heard g a hh j) true := by
  induction d with
  | zero =>
    intro j hh h0 h1 h2 h3
    exact grow_end s0 s1 hg hg1 hl0 hla (by omega) h3 hga j (by omega)
  | succ d ih =>
    intro j hh h0 h1 h2 h3
    have hL : rd_L3 heard j ∈ heard := by
      unfold rd_L3
      rw [List.getD_eq_getElem?_getD, List.getElem?_eq_getElem (by omega)]
      simp
    refine Evl.step (fun k => ?_) (grow_row (a := a) (heard := heard) (hh := hh) (self := self) (g := g) (j := j) hla h0 (by omega) (by omega) (by omega) (min a.length (rd_L3 heard j).length) 0 [] (by omega) (by omega) (by simp) ?_)
    · simp only [drumlinelaw15_AgesGrow.l1]
      rw [if_pos (by omega)]
    · refine ih (j + 1) _ (by omega) (by omega) (by simp; omega) ?_
      intro l hl
      rcases List.mem_append.1 hl with hl | hl
      · exact h3 l hl
      · rw [List.mem_singleton.1 hl, List.nil_append]
        exact cap_all (by omega) (fun v hv => hbytes _ hL v (List.mem_of_mem_take (by simpa using hv)))
theorem grow_own {own : List Int} {heard : List (List Int)} {self g : Int} (hol : own.length ≤ 6)
    (d : Nat) : ∀ (i : Int) (acc : List Int), 0 ≤ i → i + d = own.length → acc.length ≤ i →
      Evl (fun k => drumlinelaw15_AgesGrow.l1 k self heard g (acc ++ (own.drop i.toNat).map (cap g)) [] 0) true → Evl (fun k => drumlinelaw15_AgesGrow.l0 k own self heard g acc i) true := by
  induction d with
  | zero =>
    intro i acc h0 h1 h2 H
    rw [List.drop_eq_nil_of_le (by omega), List.map_nil, List.append_nil] at H
    refine Evl.step (fun k => ?_) H
    simp only [drumlinelaw15_AgesGrow.l0]
    rw [if_neg (by omega)]
  | succ d ih =>
    intro i acc h0 h1 h2 H
    rw [drop_cons (z := 0) (by omega), List.map_cons] at H
    refine Evl.step (fun k => ?_) (ih (i + 1) (acc ++ [cap g (rd own i)]) (by omega) (by omega) (by simp; omega) ?_)
    · simp only [drumlinelaw15_AgesGrow.l0]
      rw [if_pos (by omega), if_pos h0, if_pos (by omega), w64 (x := i + 1) (by omega) (by omega)]
      rfl
    · rw [show (i + 1).toNat = i.toNat + 1 by omega, List.append_assoc]
      exact H
theorem AgesGrow (own : List Int) (self : Int) (heard : List (List Int)) (gone : Int) (ho : (∀ x ∈ own, (fun n => (Lit.int .u8 n).wf = true) x) ∧ own.length ≤ 9223372036854775807) (hs : (Lit.int .u8 self).wf = true)
    (hh : (∀ x ∈ heard, (fun l => (∀ x ∈ l, (fun n => (Lit.int .u8 n).wf = true) x) ∧ l.length ≤ 9223372036854775807) x) ∧ heard.length ≤ 9223372036854775807) (hg : (Lit.int .u8 gone).wf = true) :
    ∃ k, drumlinelaw15_AgesGrow.f k own self heard gone = some true := by
  refine Evl.some_ ?_
  obtain ⟨s0, s1⟩ := wfu8 hs
  obtain ⟨g0, g1⟩ := wfu8 hg
  unfold drumlinelaw15_AgesGrow.f
  have eg : wrap64 (1 + Int.tmod (wrap64 gone) 200) = 1 + gone % 200 := by
    rw [w64 (x := gone) (by omega) (by omega), Int.tmod_eq_emod_of_nonneg g0, w64 (by omega) (by omega)]
  rw [eg]
  generalize hG : 1 + gone % 200 = g
  have gb : 1 ≤ g ∧ g ≤ 200 := by omega
  refine Evl.bind alive_evl ?_
  simp only [if_true]
  have out : Evl (fun k => drumlinelaw15_AgesGrow.j0 k own self heard g true) true := by
    refine Evl.succ ?_
    simp only [drumlinelaw15_AgesGrow.j0, if_true]
    exact Evl.bind alive_evl (Evl.now fun _ => rfl)
  by_cases e0 : (own.length : Int) = 0
  · simp only [if_pos e0]; exact out
  simp only [if_neg e0]
  by_cases e1 : (own.length : Int) > 6
  · simp only [if_pos e1]; exact out
  simp only [if_neg e1]
  by_cases e2 : (heard.length : Int) > 10
  · simp only [decide_eq_true e2]; exact out
  simp only [decide_eq_false e2]
  refine Evl.succ ?_
  simp only [drumlinelaw15_AgesGrow.j0, Bool.false_eq_true, if_false]
  refine grow_own (by omega) own.length 0 [] (by omega) (by omega) (by simp) ?_
  refine grow_rows (by omega) (fun l hl v hv => wfu8 ((hh.1 l hl).1 v hv)) s0 s1 gb.1 gb.2 (by simp only [List.nil_append, List.length_map, List.length_drop]; omega) (by simp only [List.nil_append, List.length_map, List.length_drop]; omega) ?_ heard.length 0 [] (by omega) (by omega) (by simp) (by simp)
  simp only [List.nil_append]
  exact cap_all (by omega) (fun v hv => wfu8 (ho.1 v (List.mem_of_mem_drop hv)))

end Go.Proofs.Ythkagdbabkkomaa.Pure
