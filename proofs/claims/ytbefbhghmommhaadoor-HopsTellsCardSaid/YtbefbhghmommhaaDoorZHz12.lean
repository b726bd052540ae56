/- Texts of this claim, laid together by a program (wip/g/merge5.py): PuDi. -/
import Derived.Test.YtbefbhghmommhaaDoorZHz7
import Derived.Test.YtbefbhghmommhaaDoorZHz8
import Derived.Test.YtbefbhghmommhaaDoorZHz10
import Derived.Test.YtbefbhghmommhaaDoorZHz11
set_option linter.unusedVariables false
set_option linter.unusedSimpArgs false
namespace Go.Proofs.YtbefbhghmommhaaDoor.Hops
def at_ (d : List Int) (v : Nat) : Int := d.getD v (-1)
def upd (n : Int) (d : List Int) (e : Nat × Nat) : List Int := if at_ d e.1 = n ∧ at_ d e.2 < 0 then d.set e.2 (n + 1) else d
def pass (n : Int) (E : List (Nat × Nat)) (d : List Int) : List Int := E.foldl (upd n) d
theorem upd_len (n : Int) (d : List Int) (e : Nat × Nat) : (upd n d e).length = d.length := by
 unfold upd; split <;> simp
theorem upd_at {n : Int} {d : List Int} {e : Nat × Nat} {v : Nat} (hv : v < d.length) : at_ (upd n d e) v = if v = e.2 ∧ at_ d e.1 = n ∧ at_ d e.2 < 0 then n + 1 else at_ d v := by
 unfold upd
 by_cases h : at_ d e.1 = n ∧ at_ d e.2 < 0
 ·rw [if_pos h]
  by_cases k : v = e.2
  ·rw [if_pos ⟨k, h⟩, k]
   rw [k] at hv
   simp [at_, List.getD_eq_getElem?_getD, hv]
  ·rw [if_neg (fun z => k z.1)]
   simp [at_, List.getD_eq_getElem?_getD, List.getElem?_set_ne (Ne.symm k)]
 ·rw [if_neg h, if_neg (fun z => h z.2)]
theorem pass_len (n : Int) : ∀ (E : List (Nat × Nat)) (d : List Int), (pass n E d).length = d.length
 | [], d => rfl
 | e :: E, d => by
  show (pass n E (upd n d e)).length = _
  rw [pass_len n E, upd_len]
def Near (n : Int) (E : List (Nat × Nat)) (d : List Int) (v : Nat) : Prop := ∃ e, e ∈ E ∧ e.2 = v ∧ at_ d e.1 = n
theorem near_app {n : Int} {P : List (Nat × Nat)} {e : Nat × Nat} {d : List Int} {u : Nat} : Near n (P ++ [e]) d u ↔ Near n P d u ∨ (e.2 = u ∧ at_ d e.1 = n) := by
 unfold Near
 constructor
 ·rintro ⟨k, hk, hh⟩
  rcases List.mem_append.1 hk with hk | hk
  ·exact .inl ⟨k, hk, hh⟩
  ·rw [List.mem_singleton.1 hk] at hh; exact .inr hh
 ·rintro (⟨k, hk, hh⟩ | hh)
  ·exact ⟨k, List.mem_append.2 (.inl hk), hh⟩
  ·exact ⟨e, List.mem_append.2 (.inr (by simp)), hh⟩
theorem pass_from {n : Int} (h0 : 0 ≤ n) (d0 : List Int) : ∀ (Q : List (Nat × Nat)) (P : List (Nat × Nat)) (d : List Int), d.length = d0.length → (∀ e, e ∈ Q → e.1 < d0.length ∧ e.2 < d0.length) →
  (∀ v, v < d0.length → (at_ d0 v < 0 ∧ Near n P d0 v → at_ d v = n + 1) ∧ (¬ (at_ d0 v < 0 ∧ Near n P d0 v) → at_ d v = at_ d0 v)) →
  ∀ v, v < d0.length → (at_ d0 v < 0 ∧ Near n (P ++ Q) d0 v → at_ (pass n Q d) v = n + 1) ∧ (¬ (at_ d0 v < 0 ∧ Near n (P ++ Q) d0 v) → at_ (pass n Q d) v = at_ d0 v)
 | [], P, d, hl, hq, h, v, hv => by
  rw [List.append_nil]
  exact h v hv
 | e :: Q, P, d, hl, hq, h, v, hv => by
  have he := hq e (by simp)
  have key : ∀ u, u < d0.length → (at_ d0 u < 0 ∧ Near n (P ++ [e]) d0 u → at_ (upd n d e) u = n + 1) ∧ (¬ (at_ d0 u < 0 ∧ Near n (P ++ [e]) d0 u) → at_ (upd n d e) u = at_ d0 u) := by
   intro u hu
   have same : at_ d e.1 = n ↔ at_ d0 e.1 = n := by
    obtain ⟨a1, a2⟩ := h e.1 he.1
    by_cases c : at_ d0 e.1 < 0 ∧ Near n P d0 e.1
    ·have := a1 c; omega
    ·rw [a2 c]
   obtain ⟨a1, a2⟩ := h u hu
   rw [near_app, upd_at (by rw [hl]; exact hu)]
   constructor
   ·rintro ⟨c0, c | ⟨c1, c2⟩⟩
    ·have k := a1 ⟨c0, c⟩
     rw [if_neg (fun z => by have := z.2.2; rw [← z.1, k] at this; omega)]
     exact k
    ·by_cases c : Near n P d0 u
     ·have k := a1 ⟨c0, c⟩
      rw [if_neg (fun z => by have := z.2.2; rw [← z.1, k] at this; omega)]
      exact k
     ·have k := a2 (fun z => c z.2)
      rw [if_pos ⟨c1.symm, same.2 c2, by rw [c1, k]; exact c0⟩]
   ·intro c
    have nc : ¬ (at_ d0 u < 0 ∧ Near n P d0 u) := fun z => c ⟨z.1, .inl z.2⟩
    have k := a2 nc
    rw [if_neg (fun z => c ⟨by have := z.2.2; rw [← z.1, k] at this; exact this, .inr ⟨z.1.symm, same.1 z.2.1⟩⟩)]
    exact k
  have := pass_from h0 d0 Q (P ++ [e]) (upd n d e) (by rw [upd_len, hl]) (fun k hk => hq k (by simp [hk])) key v hv
  rw [List.append_assoc] at this
  exact this
theorem pass_at {n : Int} (h0 : 0 ≤ n) {E : List (Nat × Nat)} {d : List Int} (hE : ∀ e, e ∈ E → e.1 < d.length ∧ e.2 < d.length) {v : Nat} (hv : v < d.length) :
  (at_ d v < 0 ∧ Near n E d v → at_ (pass n E d) v = n + 1) ∧ (¬ (at_ d v < 0 ∧ Near n E d v) → at_ (pass n E d) v = at_ d v) := by
 have := pass_from h0 d E [] d rfl hE (fun u hu => ⟨fun k => by obtain ⟨_, e, he, _⟩ := k; simp at he, fun _ => rfl⟩) v hv
 rw [List.nil_append] at this
 exact this
def Way (E : List (Nat × Nat)) (a : Nat) : Nat → Nat → Prop
 | 0, b => a = b
 | k + 1, b => ∃ m, Way E a k m ∧ (m, b) ∈ E
def passes (E : List (Nat × Nat)) (d : List Int) : Nat → List Int
 | 0 => d
 | n + 1 => pass n E (passes E d n)
theorem passes_len (E : List (Nat × Nat)) (d : List Int) : ∀ n, (passes E d n).length = d.length
 | 0 => rfl
 | n + 1 => by rw [passes, pass_len, passes_len E d n]
def Told (E : List (Nat × Nat)) (a : Nat) (n : Nat) (d : List Int) : Prop :=
 ∀ v, v < d.length → (∀ k : Nat, at_ d v = k → k ≤ n ∧ Way E a k v ∧ ∀ j, j < k → ¬ Way E a j v) ∧ (at_ d v < 0 → ∀ j, j ≤ n → ¬ Way E a j v)
theorem told_pass {E : List (Nat × Nat)} {a n : Nat} {d : List Int} (hE : ∀ e, e ∈ E → e.1 < d.length ∧ e.2 < d.length) (h : Told E a n d) : Told E a (n + 1) (pass n E d) := by
 intro v hv
 rw [pass_len] at hv
 obtain ⟨p1, p2⟩ := pass_at (n := (n : Int)) (by omega) hE hv
 obtain ⟨t1, t2⟩ := h v hv
 by_cases c : at_ d v < 0 ∧ Near n E d v
 ·have e1 := p1 c
  obtain ⟨e, he, hev, hn⟩ := c.2
  have te := (h e.1 (hE e he).1).1 n hn
  refine ⟨fun k hk => ?_, fun hneg => by omega⟩
  have hk' : k = n + 1 := by omega
  subst hk'
  refine ⟨Nat.le_refl _, ⟨e.1, te.2.1, ?_⟩, fun j hj => t2 c.1 j (by omega)⟩
  rw [← hev]; exact he
 ·have e1 := p2 c
  rw [e1]
  refine ⟨fun k hk => ⟨by have := (t1 k hk).1; omega, (t1 k hk).2⟩, fun hneg j hj => ?_⟩
  by_cases hjn : j ≤ n
  ·exact t2 hneg j hjn
  ·have : j = n + 1 := by omega
   subst this
   rintro ⟨m, hm, hme⟩
   have hml := (hE _ hme).1
   obtain ⟨m1, m2⟩ := h m hml
   by_cases hmneg : at_ d m < 0
   ·exact m2 hmneg n (Nat.le_refl _) hm
   ·obtain ⟨q, hq⟩ := Int.eq_ofNat_of_zero_le (show 0 ≤ at_ d m by omega)
    obtain ⟨q1, q2, q3⟩ := m1 q hq
    by_cases hqn : q = n
    ·subst hqn
     exact c ⟨hneg, ⟨_, hme, rfl, hq⟩⟩
    ·exact t2 hneg (q + 1) (by omega) ⟨m, q2, hme⟩
theorem told_passes {E : List (Nat × Nat)} {a : Nat} {d : List Int} (hE : ∀ e, e ∈ E → e.1 < d.length ∧ e.2 < d.length) (h : Told E a 0 d) : ∀ n, Told E a n (passes E d n)
 | 0 => h
 | n + 1 => told_pass (by rw [passes_len]; exact hE) (told_passes hE h n)
def Whole (E : List (Nat × Nat)) (a : Nat) (d : List Int) : Prop := ∀ v, v < d.length → at_ d v < 0 → ∀ j, ¬ Way E a j v
theorem whole_of {E : List (Nat × Nat)} {a n : Nat} {d : List Int} (hE : ∀ e, e ∈ E → e.1 < d.length ∧ e.2 < d.length) (ha : a < d.length) (h : Told E a n d) (hf : ∀ v, v < d.length → ¬ (at_ d v < 0 ∧ Near n E d v)) : Whole E a d := by
 intro v hv hneg j
 induction j generalizing v with
 | zero => exact (h v hv).2 hneg 0 (by omega)
 | succ j ih =>
  rintro ⟨m, hm, hme⟩
  have hml := (hE _ hme).1
  by_cases hmneg : at_ d m < 0
  ·exact ih m hml hmneg hm
  ·obtain ⟨q, hq⟩ := Int.eq_ofNat_of_zero_le (show 0 ≤ at_ d m by omega)
   obtain ⟨q1, q2, q3⟩ := (h m hml).1 q hq
   by_cases hqn : q = n
   ·subst hqn
    exact hf v hv ⟨hneg, ⟨_, hme, rfl, hq⟩⟩
   ·exact (h v hv).2 hneg (q + 1) (by omega) ⟨m, q2, hme⟩
theorem whole_same {E : List (Nat × Nat)} {a n n' : Nat} {d d' : List Int} (hl : d.length = d'.length) (h : Told E a n d) (h' : Told E a n' d') (w : Whole E a d) (w' : Whole E a d') {v : Nat} (hv : v < d.length) (hm : ∀ x, x ∈ d → -1 ≤ x) (hm' : ∀ x, x ∈ d' → -1 ≤ x) : at_ d v = at_ d' v := by
 have lo : ∀ (d : List Int), (∀ x, x ∈ d → -1 ≤ x) → -1 ≤ at_ d v := by
  intro d hm
  unfold at_
  rw [List.getD_eq_getElem?_getD]
  cases hx : d[v]? with
  | none => simp
  | some x => simpa using hm x (List.mem_of_getElem? hx)
 have l1 := lo d hm
 have l2 := lo d' hm'
 by_cases c : at_ d v < 0
 ·by_cases c' : at_ d' v < 0
  ·omega
  ·obtain ⟨q, hq⟩ := Int.eq_ofNat_of_zero_le (show 0 ≤ at_ d' v by omega)
   exact absurd ((h' v (hl ▸ hv)).1 q hq).2.1 (w v hv c q)
 ·obtain ⟨p, hp⟩ := Int.eq_ofNat_of_zero_le (show 0 ≤ at_ d v by omega)
  obtain ⟨p1, p2, p3⟩ := (h v hv).1 p hp
  by_cases c' : at_ d' v < 0
  ·exact absurd p2 (w' v (hl ▸ hv) c' p)
  ·obtain ⟨q, hq⟩ := Int.eq_ofNat_of_zero_le (show 0 ≤ at_ d' v by omega)
   obtain ⟨q1, q2, q3⟩ := (h' v (hl ▸ hv)).1 q hq
   have : ¬ q < p := fun k => p3 q k q2
   have : ¬ p < q := fun k => q3 p k p2
   omega
theorem way_step {E : List (Nat × Nat)} {a m : Nat} (hm : (a, m) ∈ E) : ∀ {k b : Nat}, Way E m k b → Way E a (k + 1) b
 | 0, b, h => ⟨a, rfl, by rw [← show m = b from h]; exact hm⟩
 | k + 1, b, ⟨x, hx, he⟩ => ⟨x, way_step hm hx, he⟩
theorem way_back {E : List (Nat × Nat)} (hs : ∀ e, e ∈ E → (e.2, e.1) ∈ E) : ∀ {k a b : Nat}, Way E a k b → Way E b k a
 | 0, a, b, h => Eq.symm h
 | k + 1, a, b, ⟨m, hm, he⟩ => way_step (hs _ he) (way_back hs hm)
theorem told_back {E : List (Nat × Nat)} (hs : ∀ e, e ∈ E → (e.2, e.1) ∈ E) {a b n n' : Nat} {d d' : List Int} (h : Told E a n d) (h' : Told E b n' d') (w : Whole E a d) (w' : Whole E b d') (ha : a < d'.length) (hb : b < d.length) (l1 : -1 ≤ at_ d b) (l2 : -1 ≤ at_ d' a) : at_ d b = at_ d' a := by
 by_cases c : at_ d b < 0
 ·by_cases c' : at_ d' a < 0
  ·omega
  ·obtain ⟨q, hq⟩ := Int.eq_ofNat_of_zero_le (show 0 ≤ at_ d' a by omega)
   exact absurd (way_back hs ((h' a ha).1 q hq).2.1) (w b hb c q)
 ·obtain ⟨p, hp⟩ := Int.eq_ofNat_of_zero_le (show 0 ≤ at_ d b by omega)
  obtain ⟨p1, p2, p3⟩ := (h b hb).1 p hp
  by_cases c' : at_ d' a < 0
  ·exact absurd (way_back hs p2) (w' a ha c' p)
  ·obtain ⟨q, hq⟩ := Int.eq_ofNat_of_zero_le (show 0 ≤ at_ d' a by omega)
   obtain ⟨q1, q2, q3⟩ := (h' a ha).1 q hq
   have : ¬ q < p := fun k => p3 q k (way_back hs q2)
   have : ¬ p < q := fun k => q3 p k (way_back hs p2)
   omega
def cnt (d : List Int) : Nat := d.countP (fun x => decide (0 ≤ x))
theorem cnt_le : ∀ (d d' : List Int), d.length = d'.length → (∀ v, v < d.length → 0 ≤ at_ d v → 0 ≤ at_ d' v) → cnt d ≤ cnt d'
 | [], [], _, _ => Nat.le_refl _
 | x :: d, y :: d', hl, h => by
  have ih := cnt_le d d' (by simpa using hl) (fun v hv hx => by
   have := h (v + 1) (by simp; omega) (by simpa [at_] using hx)
   simpa [at_] using this)
  have h0 := h 0 (by simp)
  simp only [at_, List.getD_cons_zero] at h0
  unfold cnt at *
  rw [List.countP_cons, List.countP_cons]
  by_cases hx : 0 ≤ x
  ·simp [hx, h0 hx, ih]
  ·simp only [decide_eq_true_eq]
   rw [if_neg hx]
   split <;> omega
theorem cnt_lt : ∀ (d d' : List Int), d.length = d'.length → (∀ v, v < d.length → 0 ≤ at_ d v → 0 ≤ at_ d' v) → (∃ v, v < d.length ∧ at_ d v < 0 ∧ 0 ≤ at_ d' v) → cnt d < cnt d'
 | [], [], _, _, ⟨v, hv, _⟩ => by simp at hv
 | x :: d, y :: d', hl, h, ⟨v, hv, hn, hp⟩ => by
  have hl' : d.length = d'.length := by simpa using hl
  have hh : ∀ v, v < d.length → 0 ≤ at_ d v → 0 ≤ at_ d' v := fun v hv hx => by
   have := h (v + 1) (by simp; omega) (by simpa [at_] using hx)
   simpa [at_] using this
  have le := cnt_le d d' hl' hh
  have h0 := h 0 (by simp)
  simp only [at_, List.getD_cons_zero] at h0
  cases v with
  | zero =>
   simp only [at_, List.getD_cons_zero] at hn hp
   unfold cnt at *
   rw [List.countP_cons, List.countP_cons]
   simp only [decide_eq_true_eq]
   rw [if_neg (by omega), if_pos hp]
   omega
  | succ v =>
   have lt := cnt_lt d d' hl' hh ⟨v, by simpa using hv, by simpa [at_] using hn, by simpa [at_] using hp⟩
   unfold cnt at *
   rw [List.countP_cons, List.countP_cons]
   simp only [decide_eq_true_eq]
   by_cases hx : 0 ≤ x
   ·rw [if_pos hx, if_pos (h0 hx)]; omega
   ·rw [if_neg hx]; split <;> omega
theorem cnt_max (d : List Int) : cnt d ≤ d.length := List.countP_le_length
theorem passes_whole {E : List (Nat × Nat)} {a : Nat} {d : List Int} (hE : ∀ e, e ∈ E → e.1 < d.length ∧ e.2 < d.length) (ha : a < d.length) (h : Told E a 0 d) : ∀ n, Whole E a (passes E d n) ∨ n ≤ cnt (passes E d n)
 | 0 => .inr (Nat.zero_le _)
 | n + 1 => by
  have hEn : ∀ e, e ∈ E → e.1 < (passes E d n).length ∧ e.2 < (passes E d n).length := by rw [passes_len]; exact hE
  have hT := told_passes hE h n
  have keep : ∀ v, v < (passes E d n).length → 0 ≤ at_ (passes E d n) v → at_ (passes E d (n + 1)) v = at_ (passes E d n) v := fun v hv hp =>
   (pass_at (n := (n : Int)) (by omega) hEn hv).2 (fun c => by omega)
  have len : (passes E d n).length = (passes E d (n + 1)).length := by rw [passes_len, passes_len]
  by_cases hf : ∃ v, v < (passes E d n).length ∧ at_ (passes E d n) v < 0 ∧ Near n E (passes E d n) v
  ·obtain ⟨v, hv, hneg, hnear⟩ := hf
   have hp := (pass_at (n := (n : Int)) (by omega) hEn hv).1 ⟨hneg, hnear⟩
   have lt := cnt_lt _ _ len (fun u hu hu0 => by rw [keep u hu hu0]; exact hu0) ⟨v, hv, hneg, by show 0 ≤ at_ (pass n E (passes E d n)) v; omega⟩
   rcases passes_whole hE ha h n with w | c
   ·exact absurd hnear (fun _ => by
     obtain ⟨e, he, hev, hn⟩ := hnear
     obtain ⟨q1, q2, q3⟩ := (hT e.1 (hEn e he).1).1 n hn
     exact w v hv hneg (n + 1) ⟨e.1, q2, by rw [← hev]; exact he⟩)
   ·exact .inr (by omega)
  ·refine .inl ?_
   have hf' : ∀ v, v < (passes E d n).length → ¬ (at_ (passes E d n) v < 0 ∧ Near n E (passes E d n) v) := fun v hv c => hf ⟨v, hv, c⟩
   have w := whole_of hEn (by rw [passes_len]; exact ha) hT hf'
   intro v hv hneg j
   have hv' : v < (passes E d n).length := by rw [len]; exact hv
   have e := (pass_at (n := (n : Int)) (by omega) hEn hv').2 (hf' v hv')
   exact w v hv' (by have e' : at_ (passes E d (n + 1)) v = at_ (passes E d n) v := e; omega) j
theorem passes_end {E : List (Nat × Nat)} {a : Nat} {d : List Int} (hE : ∀ e, e ∈ E → e.1 < d.length ∧ e.2 < d.length) (ha : a < d.length) (h : Told E a 0 d) : Whole E a (passes E d d.length) := by
 rcases passes_whole hE ha h d.length with w | c
 ·exact w
 ·intro v hv hneg
  have h1 := cnt_max (passes E d d.length)
  rw [passes_len] at h1
  have : cnt (passes E d d.length) < (passes E d d.length).length := by
   unfold cnt
   refine Nat.lt_of_le_of_ne List.countP_le_length (fun e => ?_)
   have := (List.countP_eq_length.1 e) ((passes E d d.length)[v]) (List.getElem_mem hv)
   simp only [decide_eq_true_eq] at this
   unfold at_ at hneg
   rw [List.getD_eq_getElem?_getD, List.getElem?_eq_getElem hv] at hneg
   simp only [Option.getD_some] at hneg
   omega
  rw [passes_len] at this
  omega
def upm (n : Int) (s : List Int × Bool) (e : Nat × Nat) : List Int × Bool := if at_ s.1 e.1 = n ∧ at_ s.1 e.2 < 0 then (s.1.set e.2 (n + 1), true) else s
def passm (n : Int) (E : List (Nat × Nat)) (s : List Int × Bool) : List Int × Bool := E.foldl (upm n) s
theorem upm_fst (n : Int) (s : List Int × Bool) (e : Nat × Nat) : (upm n s e).1 = upd n s.1 e := by unfold upm upd; split <;> rfl
theorem passm_fst (n : Int) : ∀ (E : List (Nat × Nat)) (s : List Int × Bool), (passm n E s).1 = pass n E s.1
 | [], s => rfl
 | e :: E, s => by
  show (passm n E (upm n s e)).1 = pass n E (upd n s.1 e)
  rw [passm_fst n E, upm_fst]
theorem upm_true (n : Int) (d : List Int) (e : Nat × Nat) : (upm n (d, true) e).2 = true := by unfold upm; split <;> rfl
theorem passm_true (n : Int) : ∀ (E : List (Nat × Nat)) (d : List Int), (passm n E (d, true)).2 = true
 | [], d => rfl
 | e :: E, d => by
  show (passm n E (upm n (d, true) e)).2 = true
  have h := upm_true n d e
  have e1 : upm n (d, true) e = ((upm n (d, true) e).1, true) := Prod.ext rfl h
  rw [e1]
  exact passm_true n E _
theorem passm_false (n : Int) : ∀ (E : List (Nat × Nat)) (d : List Int), (passm n E (d, false)).2 = false → pass n E d = d ∧ ∀ e, e ∈ E → ¬ (at_ d e.1 = n ∧ at_ d e.2 < 0)
 | [], d, _ => ⟨rfl, fun e he => by simp at he⟩
 | e :: E, d, h => by
  by_cases c : at_ d e.1 = n ∧ at_ d e.2 < 0
  ·have h' : (passm n E (d.set e.2 (n + 1), true)).2 = false := by
    have : passm n (e :: E) (d, false) = passm n E (d.set e.2 (n + 1), true) := by show passm n E (upm n (d, false) e) = _; unfold upm; rw [if_pos c]
    rw [this] at h; exact h
   rw [passm_true] at h'; cases h'
  ·have h' : (passm n E (d, false)).2 = false := by
    have : passm n (e :: E) (d, false) = passm n E (d, false) := by show passm n E (upm n (d, false) e) = _; unfold upm; rw [if_neg c]
    rw [this] at h; exact h
   obtain ⟨i1, i2⟩ := passm_false n E d h'
   refine ⟨?_, fun k hk => ?_⟩
   ·show pass n E (upd n d e) = d
    unfold upd
    rw [if_neg c]
    exact i1
   ·rcases List.mem_cons.1 hk with rfl | hk
    ·exact c
    ·exact i2 k hk
theorem pass_keep {n : Int} {E : List (Nat × Nat)} : ∀ {d : List Int} {v : Nat}, 0 ≤ at_ d v → at_ (pass n E d) v = at_ d v := by
 induction E with
 | nil => intro d v h; rfl
 | cons e E ih =>
  intro d v h
  show at_ (pass n E (upd n d e)) v = at_ d v
  have h1 : at_ (upd n d e) v = at_ d v := by
   by_cases hv : v < d.length
   ·rw [upd_at hv]
    split
    ·rename_i c; rw [← c.1] at c; omega
    ·rfl
   ·unfold at_ at h
    rw [List.getD_eq_getElem?_getD, List.getElem?_eq_none (by omega)] at h
    simp at h
  rw [ih (by rw [h1]; exact h), h1]
theorem passm_lt {n : Int} (h0 : 0 ≤ n) : ∀ {E : List (Nat × Nat)} {d : List Int}, (∀ e, e ∈ E → e.1 < d.length ∧ e.2 < d.length) → (passm n E (d, false)).2 = true → cnt d < cnt (pass n E d)
 | [], d, _, h => by simp [passm] at h
 | e :: E, d, hE, h => by
  by_cases c : at_ d e.1 = n ∧ at_ d e.2 < 0
  ·have he := hE e (by simp)
   have l1 : (upd n d e).length = d.length := upd_len n d e
   have l2 := pass_len n E (upd n d e)
   show cnt d < cnt (pass n E (upd n d e))
   have s1 : cnt d < cnt (upd n d e) := by
    refine cnt_lt _ _ l1.symm (fun v hv hp => ?_) ⟨e.2, he.2, c.2, ?_⟩
    ·rw [upd_at hv]; split
     ·omega
     ·exact hp
    ·rw [upd_at he.2, if_pos ⟨rfl, c⟩]; omega
   have s2 : cnt (upd n d e) ≤ cnt (pass n E (upd n d e)) := cnt_le _ _ l2.symm (fun v hv hp => by rw [pass_keep hp]; exact hp)
   omega
  ·have h' : (passm n E (d, false)).2 = true := by
    have : passm n (e :: E) (d, false) = passm n E (d, false) := by show passm n E (upm n (d, false) e) = _; unfold upm; rw [if_neg c]
    rw [this] at h; exact h
   have := passm_lt h0 (fun k hk => hE k (by simp [hk])) h'
   show cnt d < cnt (pass n E (upd n d e))
   unfold upd
   rw [if_neg c]
   exact this
def bgn (n a : Nat) : List Int := (List.replicate n (-1 : Int)).set a 0
theorem bgn_len (n a : Nat) : (bgn n a).length = n := by simp [bgn]
theorem bgn_at {n a v : Nat} (hv : v < n) : at_ (bgn n a) v = if v = a then 0 else -1 := by
 unfold bgn at_
 by_cases h : v = a
 ·subst h; simp [List.getD_eq_getElem?_getD, hv]
 ·rw [if_neg h, List.getD_eq_getElem?_getD, List.getElem?_set_ne (Ne.symm h)]; simp [hv]
theorem bgn_told {n a : Nat} (E : List (Nat × Nat)) : Told E a 0 (bgn n a) := by
 intro v hv
 rw [bgn_len] at hv
 rw [bgn_at hv]
 refine ⟨fun k hk => ?_, fun hneg j hj => ?_⟩
 ·split at hk
  ·rename_i h
   have : k = 0 := by omega
   subst this
   exact ⟨Nat.le_refl _, h.symm, fun j hj => absurd hj (by omega)⟩
  ·omega
 ·split at hneg
  ·omega
  ·rename_i h
   have : j = 0 := by omega
   subst this
   exact fun e => h (Eq.symm e)
theorem bgn_cnt {n a : Nat} (ha : a < n) : 1 ≤ cnt (bgn n a) := by
 have h := cnt_lt (List.replicate n (-1 : Int)) (bgn n a) (by simp [bgn]) (fun v hv hp => by
  rw [List.length_replicate] at hv
  simp [at_, List.getD_eq_getElem?_getD, hv] at hp) ⟨a, by simpa using ha, by simp [at_, List.getD_eq_getElem?_getD, ha], by rw [bgn_at ha, if_pos rfl]; exact Int.le_refl _⟩
 omega
theorem bgn_low (n a : Nat) : ∀ x, x ∈ bgn n a → -1 ≤ x := by
 intro x hx
 unfold bgn at hx
 rcases List.mem_or_eq_of_mem_set hx with h | h
 ·rw [(List.mem_replicate.1 h).2]; exact Int.le_refl _
 ·omega
theorem upd_low {n : Int} (h0 : 0 ≤ n) {d : List Int} (e : Nat × Nat) (h : ∀ x, x ∈ d → -1 ≤ x) : ∀ x, x ∈ upd n d e → -1 ≤ x := by
 intro x hx
 unfold upd at hx
 split at hx
 ·rcases List.mem_or_eq_of_mem_set hx with h' | h'
  ·exact h x h'
  ·omega
 ·exact h x hx
theorem pass_low {n : Int} (h0 : 0 ≤ n) : ∀ (E : List (Nat × Nat)) {d : List Int}, (∀ x, x ∈ d → -1 ≤ x) → ∀ x, x ∈ pass n E d → -1 ≤ x
 | [], d, h => h
 | e :: E, d, h => pass_low h0 E (upd_low h0 e h)
theorem passes_low (E : List (Nat × Nat)) {d : List Int} (h : ∀ x, x ∈ d → -1 ≤ x) : ∀ n x, x ∈ passes E d n → -1 ≤ x
 | 0 => h
 | n + 1 => pass_low (by omega) E (passes_low E h n)
theorem eq_of_at {d d' : List Int} (hl : d.length = d'.length) (h : ∀ v, v < d.length → at_ d v = at_ d' v) : d = d' := by
 refine List.ext_getElem hl (fun v h1 h2 => ?_)
 have := h v h1
 simpa [at_, List.getD_eq_getElem?_getD, h1, h2] using this
def far (E : List (Nat × Nat)) (n a : Nat) : List Int := passes E (bgn n a) n
theorem far_len (E : List (Nat × Nat)) (n a : Nat) : (far E n a).length = n := by rw [far, passes_len, bgn_len]
theorem far_told {E : List (Nat × Nat)} {n a : Nat} (hE : ∀ e, e ∈ E → e.1 < n ∧ e.2 < n) : Told E a n (far E n a) := told_passes (by rw [bgn_len]; exact hE) (bgn_told E) n
theorem far_whole {E : List (Nat × Nat)} {n a : Nat} (hE : ∀ e, e ∈ E → e.1 < n ∧ e.2 < n) (ha : a < n) : Whole E a (far E n a) := by
 have := passes_end (E := E) (a := a) (d := bgn n a) (by rw [bgn_len]; exact hE) (by rw [bgn_len]; exact ha) (bgn_told E)
 rw [bgn_len] at this
 exact this
theorem far_low (E : List (Nat × Nat)) (n a : Nat) : ∀ x, x ∈ far E n a → -1 ≤ x := passes_low E (bgn_low n a) n
theorem far_at_low (E : List (Nat × Nat)) (n a v : Nat) : -1 ≤ at_ (far E n a) v := by
 unfold at_
 rw [List.getD_eq_getElem?_getD]
 cases h : (far E n a)[v]? with
 | none => simp
 | some x => simpa using far_low E n a x (List.mem_of_getElem? h)
theorem far_of_stop {E : List (Nat × Nat)} {n a m : Nat} (hE : ∀ e, e ∈ E → e.1 < n ∧ e.2 < n) (ha : a < n) (h : (passm (m : Int) E (passes E (bgn n a) m, false)).2 = false) : passes E (bgn n a) (m + 1) = far E n a := by
 obtain ⟨h1, h2⟩ := passm_false _ _ _ h
 have hl : (passes E (bgn n a) m).length = n := by rw [passes_len, bgn_len]
 have hE' : ∀ e, e ∈ E → e.1 < (bgn n a).length ∧ e.2 < (bgn n a).length := by rw [bgn_len]; exact hE
 have w := whole_of (E := E) (a := a) (n := m) (d := passes E (bgn n a) m) (by rw [hl]; exact hE) (by rw [hl]; exact ha) (told_passes hE' (bgn_told E) m) (fun v hv c => by
  obtain ⟨hneg, e, he, hev, hn⟩ := c
  exact h2 e he ⟨hn, by rw [hev]; exact hneg⟩)
 show pass m E (passes E (bgn n a) m) = _
 rw [h1]
 refine eq_of_at (by rw [hl, far_len]) (fun v hv => ?_)
 exact whole_same (by rw [hl, far_len]) (told_passes hE' (bgn_told E) m) (far_told hE) w (far_whole hE ha) hv (passes_low E (bgn_low n a) m) (far_low E n a)
end Go.Proofs.YtbefbhghmommhaaDoor.Hops
namespace Go.Proofs.YtbefbhghmommhaaDoor.MWo
open Go.RowKit Go.Proofs.YtbefbhghmommhaaDoorW.PrintWords Go.Proofs.YtbefbhghmommhaaDoorW.PrintLast Go.Proofs.YtbefbhghmommhaaDoorW.PrintMore
open Go.Proofs.YtbefbhghmommhaaDoor.Evl
open Hops (at_ upd upm pass passm passes far bgn cnt)
def lends (l : S39) : List (Nat × Nat) := [(l.f0.toNat, l.f1.toNat), (l.f1.toNat, l.f0.toNat)]
def ends (L : List S39) : List (Nat × Nat) := L.flatMap lends
def InR (n : Nat) (L : List S39) : Prop := ∀ i : Int, 0 ≤ i → i < L.length → (0 ≤ (rd_T39 L i).f0 ∧ (rd_T39 L i).f0 < n) ∧ (0 ≤ (rd_T39 L i).f1 ∧ (rd_T39 L i).f1 < n)
theorem rd_at {d : List Int} {i : Int} (h0 : 0 ≤ i) (h1 : i < d.length) : rd d i = at_ d i.toNat := by
 have h : i.toNat < d.length := by omega
 simp [rd, at_, List.getD_eq_getElem?_getD, h]
theorem ends_in {n : Nat} {L : List S39} (h : InR n L) : ∀ e, e ∈ ends L → e.1 < n ∧ e.2 < n := by
 intro e he
 obtain ⟨l, hl, hel⟩ := List.mem_flatMap.1 he
 obtain ⟨k, hk, rfl⟩ := List.getElem_of_mem hl
 have hh := h k (by omega) (by omega)
 have e1 : rd_T39 L (k : Int) = L[k] := by simp [rd_T39, List.getD_eq_getElem?_getD, hk]
 rw [e1] at hh
 unfold lends at hel
 simp only [List.mem_cons, List.not_mem_nil, or_false] at hel
 rcases hel with rfl | rfl
 ·dsimp only; omega
 ·dsimp only; omega
theorem ends_back {L : List S39} : ∀ e, e ∈ ends L → (e.2, e.1) ∈ ends L := by
 intro e he
 obtain ⟨l, hl, hel⟩ := List.mem_flatMap.1 he
 refine List.mem_flatMap.2 ⟨l, hl, ?_⟩
 unfold lends at hel ⊢
 simp only [List.mem_cons, List.not_mem_nil, or_false] at hel ⊢
 rcases hel with rfl | rfl
 ·exact .inr rfl
 ·exact .inl rfl
theorem upm_len (n : Int) (s : List Int × Bool) (e : Nat × Nat) : (upm n s e).1.length = s.1.length := by rw [Hops.upm_fst, Hops.upd_len]
theorem ev_end {d : List Int} {n : Int} {m : Bool} {lst : List S39} {len i : Int} {P : List S43} {L : List S39} {a2 a3 a4 a5 a6 a7 a8 a9 a10 a11 a12 : Int} {X : List S37} {q x y : Int} {r : List Int}
  (hn : -1000 ≤ n ∧ n ≤ 1000) (hq0 : 0 ≤ q) (hq1 : q < X.length) (hX : X.length ≤ 1000) (hx : (rd_T37 X q).f0 = x) (hy : (rd_T37 X q).f1 = y) (x0 : 0 ≤ x) (x1 : x < d.length) (y0 : 0 ≤ y) (y1 : y < d.length)
  (h : Evl (fun k => plan_Dists.l2 k (upm n (d, m) (x.toNat, y.toNat)).1 n (upm n (d, m) (x.toNat, y.toNat)).2 lst len i X (X.length : Int) (q + 1) P L a2 a3 a4 a5 a6 a7 a8 a9 a10 a11 a12) r) :
  Evl (fun k => plan_Dists.l2 k d n m lst len i X (X.length : Int) q P L a2 a3 a4 a5 a6 a7 a8 a9 a10 a11 a12) r := by
 have hw : wrap64 (q + 1) = q + 1 := by unfold wrap64; omega
 have hw2 : wrap64 (n + 1) = n + 1 := by unfold wrap64; omega
 refine Evl.step (fun k => ?_) h
 rw [plan_Dists.l2]
 rw [if_pos hq1, if_pos hq0, if_pos hq1, hx, hy, if_pos x0, if_pos x1, if_pos y0, if_pos y1, hw, hw2, rd_at x0 x1, rd_at y0 y1]
 unfold upm
 dsimp only
 by_cases c1 : at_ d x.toNat = n
 ·by_cases c2 : at_ d y.toNat < 0
  ·rw [if_pos c1, if_pos c2, if_pos (And.intro c1 c2)]
  ·rw [if_pos c1, if_neg c2, if_neg (fun z => c2 z.2)]
 ·rw [if_neg c1, if_neg (fun z => c1 z.1)]
theorem ev_pass {n : Int} (hn : -1000 ≤ n ∧ n ≤ 1000) {P : List S43} {L : List S39} {N : Nat} (hL : L.length ≤ 1000) (hI : InR N L) {a2 a3 a4 a5 a6 a7 a8 a9 a10 a11 a12 : Int} {r : List Int} : ∀ (j : Nat) (i : Nat) (d : List Int) (m : Bool), i + j = L.length → d.length = N →
  Evl (fun k => plan_Dists.l0 k (passm n (ends (L.drop i)) (d, m)).1 (n + 1) (passm n (ends (L.drop i)) (d, m)).2 P L a2 a3 a4 a5 a6 a7 a8 a9 a10 a11 a12) r → Evl (fun k => plan_Dists.l1 k d n m L (L.length : Int) (i : Int) P L a2 a3 a4 a5 a6 a7 a8 a9 a10 a11 a12) r
 | 0, i, d, m, hi, hd, h => by
  have hw2 : wrap64 (n + 1) = n + 1 := by unfold wrap64; omega
  rw [List.drop_of_length_le (by omega)] at h
  refine Evl.step (fun k => ?_) h
  rw [plan_Dists.l1, if_neg (by omega), hw2]
  rfl
 | j + 1, i, d, m, hi, hd, h => by
  have hw : wrap64 ((i : Int) + 1) = (i : Int) + 1 := by unfold wrap64; omega
  have hh := hI i (by omega) (by omega)
  have hlt : i < L.length := by omega
  have e1 : rd_T39 L (i : Int) = L[i] := by simp [rd_T39, List.getD_eq_getElem?_getD, hlt]
  have hdr : L.drop i = L[i] :: L.drop (i + 1) := List.drop_eq_getElem_cons hlt
  rw [hdr] at h
  obtain ⟨⟨ha0, ha1⟩, ⟨hb0, hb1⟩⟩ := hh
  have hs : ∀ s, passm n (ends (L[i] :: L.drop (i + 1))) s = passm n (ends (L.drop (i + 1))) (upm n (upm n s ((rd_T39 L i).f0.toNat, (rd_T39 L i).f1.toNat)) ((rd_T39 L i).f1.toNat, (rd_T39 L i).f0.toNat)) := by
   intro s
   rw [e1]
   rfl
  rw [hs] at h
  generalize ha : (rd_T39 L i).f0 = a at *
  generalize hb : (rd_T39 L i).f1 = b at *
  obtain ⟨s2, hs2⟩ : ∃ s, upm n (upm n (d, m) (a.toNat, b.toNat)) (b.toNat, a.toNat) = s := ⟨_, rfl⟩
  have hl1 : (upm n (d, m) (a.toNat, b.toNat)).1.length = N := by rw [upm_len]; exact hd
  have hl2 : s2.1.length = N := by rw [← hs2, upm_len, upm_len]; exact hd
  rw [hs2] at h
  have IH := ev_pass hn hL hI j (i + 1) s2.1 s2.2 (by omega) hl2 h
  refine Evl.step (h := fun k => plan_Dists.l2 k d n m L (L.length : Int) (i : Int) [(⟨a, b⟩ : S37), (⟨b, a⟩ : S37)] (([(⟨a, b⟩ : S37), (⟨b, a⟩ : S37)] : List S37).length : Int) 0 P L a2 a3 a4 a5 a6 a7 a8 a9 a10 a11 a12) (fun k => ?_) ?_
  ·rw [plan_Dists.l1, if_pos (by omega), if_pos (by omega), if_pos (by omega), ha, hb]
   rfl
  ·refine ev_end hn (Int.le_refl _) (by simp) (by simp) (x := a) (y := b) rfl rfl ha0 (by omega) hb0 (by omega) ?_
   refine ev_end hn (by decide) (by simp) (by simp) (x := b) (y := a) rfl rfl hb0 (by omega) ha0 (by omega) ?_
   have e2 : upm n ((upm n (d, m) (a.toNat, b.toNat)).1, (upm n (d, m) (a.toNat, b.toNat)).2) (b.toNat, a.toNat) = s2 := hs2
   rw [e2]
   refine Evl.step (fun k => ?_) IH
   rw [plan_Dists.l2, if_neg (by simp), hw]
   rfl
theorem ev_passes {P : List S43} {L : List S39} {N a : Nat} (hN : N ≤ 100) (hL : L.length ≤ 1000) (hI : InR N L) (ha : a < N) {a2 a3 a4 a5 a6 a7 a8 a9 a10 a11 a12 : Int} : ∀ (j m : Nat), m + 1 ≤ cnt (passes (ends L) (bgn N a) m) → N ≤ cnt (passes (ends L) (bgn N a) m) + j →
  Evl (fun k => plan_Dists.l0 k (passes (ends L) (bgn N a) m) (m : Int) true P L a2 a3 a4 a5 a6 a7 a8 a9 a10 a11 a12) (far (ends L) N a) := by
 intro j
 induction j with
 | zero =>
  intro m h1 h2
  have hle := Hops.cnt_max (passes (ends L) (bgn N a) m)
  rw [Hops.passes_len, Hops.bgn_len] at hle
  have hE := ends_in hI
  have hst : (Hops.passm (m : Int) (ends L) (passes (ends L) (bgn N a) m, false)).2 = false := by
   cases hc : (Hops.passm (m : Int) (ends L) (passes (ends L) (bgn N a) m, false)).2 with
   | false => rfl
   | true =>
    have := Hops.passm_lt (by omega) (by rw [Hops.passes_len, Hops.bgn_len]; exact hE) hc
    have h3 := Hops.cnt_max (pass (m : Int) (ends L) (passes (ends L) (bgn N a) m))
    rw [Hops.pass_len, Hops.passes_len, Hops.bgn_len] at h3
    omega
  refine Evl.step (fun k => by rw [plan_Dists.l0, if_pos rfl]) ?_
  refine ev_pass (by omega) hL hI L.length 0 _ _ (by omega) (by rw [Hops.passes_len, Hops.bgn_len]) ?_
  rw [List.drop_zero, hst, Hops.passm_fst]
  refine Evl.stop (fun k => ?_)
  rw [plan_Dists.l0, if_neg (by decide)]
  exact congrArg some (Hops.far_of_stop hE ha hst)
 | succ j ih =>
  intro m h1 h2
  have hle := Hops.cnt_max (passes (ends L) (bgn N a) m)
  rw [Hops.passes_len, Hops.bgn_len] at hle
  have hE := ends_in hI
  refine Evl.step (fun k => by rw [plan_Dists.l0, if_pos rfl]) ?_
  refine ev_pass (by omega) hL hI L.length 0 _ _ (by omega) (by rw [Hops.passes_len, Hops.bgn_len]) ?_
  rw [List.drop_zero, Hops.passm_fst]
  cases hc : (Hops.passm (m : Int) (ends L) (passes (ends L) (bgn N a) m, false)).2 with
  | false =>
   refine Evl.stop (fun k => ?_)
   rw [plan_Dists.l0, if_neg (by decide)]
   exact congrArg some (Hops.far_of_stop hE ha hc)
  | true =>
   have := Hops.passm_lt (by omega) (by rw [Hops.passes_len, Hops.bgn_len]; exact hE) hc
   exact ih (m + 1) (by show _ ≤ cnt (pass (m : Int) (ends L) (passes (ends L) (bgn N a) m)); omega) (by show _ ≤ cnt (pass (m : Int) (ends L) (passes (ends L) (bgn N a) m)) + j; omega)
theorem dists_ev (P : List S43) (L : List S39) (a2 a3 a4 a5 a6 a7 a8 a9 a10 a11 a12 a : Int) (hN : P.length ≤ 6) (hL : L.length ≤ 1000) (hI : InR P.length L) (h0 : 0 ≤ a) (h1 : a < P.length) : Evl (fun k => plan_Dists.f k P L a2 a3 a4 a5 a6 a7 a8 a9 a10 a11 a12 a) (far (ends L) P.length a.toNat) := by
 have ha : a.toNat < P.length := by omega
 have e : ∀ k, plan_Dists.f k P L a2 a3 a4 a5 a6 a7 a8 a9 a10 a11 a12 a = plan_Dists.l0 k (bgn P.length a.toNat) 0 true P L a2 a3 a4 a5 a6 a7 a8 a9 a10 a11 a12 := by
  intro k
  unfold plan_Dists.f slices_Repeat_int_int.f
  rw [if_pos ⟨rfl, by omega, by omega⟩, Option.bind_some, if_pos h0, if_pos (by rw [List.length_replicate]; omega)]
  rfl
 exact Evl.congr e (ev_passes (by omega) hL hI ha P.length 0 (Hops.bgn_cnt ha) (by omega))
theorem rev_link {d : List Int} {n i : Int} {P : List S43} {L : List S39} {a2 a3 a4 a5 a6 a7 a8 a9 a10 a11 a12 : Int} {x y : Int} {r : List Int} (hn : -1000 ≤ n ∧ n ≤ 1000) (hL : L.length ≤ 1000) (hi0 : 0 ≤ i) (hi1 : i < L.length)
  (hx : (rd_T39 L i).f0 = x) (hy : (rd_T39 L i).f1 = y) (x0 : 0 ≤ x) (x1 : x < d.length) (y0 : 0 ≤ y) (y1 : y < d.length)
  (h : Evl (fun k => dr5_dists.l2 k (upd n (upd n d (x.toNat, y.toNat)) (y.toNat, x.toNat)) n (i + 1) P L a2 a3 a4 a5 a6 a7 a8 a9 a10 a11 a12) r) :
  Evl (fun k => dr5_dists.l2 k d n i P L a2 a3 a4 a5 a6 a7 a8 a9 a10 a11 a12) r := by
 have hw : wrap64 (i + 1) = i + 1 := by unfold wrap64; omega
 have hw2 : wrap64 (n + 1) = n + 1 := by unfold wrap64; omega
 have l1 := Hops.upd_len n d (x.toNat, y.toNat)
 have key : Evl (fun k => dr5_dists.j3 k d n i (decide (at_ d x.toNat = n ∧ at_ d y.toNat < 0)) P L a2 a3 a4 a5 a6 a7 a8 a9 a10 a11 a12 (rd_T39 L i).f0 (rd_T39 L i).f1 (rd_T39 L i).f2.f0 (rd_T39 L i).f2.f1 (rd_T39 L i).f3.f0 (rd_T39 L i).f3.f1) r := by
  refine Evl.step (fun k => ?_) h
  rw [dr5_dists.j3, hx, hy]
  by_cases c : at_ d x.toNat = n ∧ at_ d y.toNat < 0
  ·have e1 : d.set y.toNat (n + 1) = upd n d (x.toNat, y.toNat) := by unfold upd; rw [if_pos c]
   rw [if_pos (dT c), if_pos y0, if_pos y1, hw2, hw, e1, Option.bind_some]
   have x1' : x < ((upd n d (x.toNat, y.toNat)).length : Int) := by rw [l1]; exact x1
   have y1' : y < ((upd n d (x.toNat, y.toNat)).length : Int) := by rw [l1]; exact y1
   rw [rd_at y0 y1', if_pos x0, if_pos x1, rd_at x0 x1']
   generalize upd n d (x.toNat, y.toNat) = d1
   unfold upd
   dsimp only
   by_cases c3 : at_ d1 y.toNat = n
   ·by_cases c4 : at_ d1 x.toNat < 0
    ·rw [if_pos c3, if_pos c4, if_pos ⟨c3, c4⟩]
    ·rw [if_pos c3, if_neg c4, if_neg (fun z => c4 z.2)]
   ·rw [if_neg c3, if_neg (fun z => c3 z.1)]
  ·have e1 : d = upd n d (x.toNat, y.toNat) := by unfold upd; rw [if_neg c]
   rw [if_neg (by rw [dF c]; decide), if_pos y0, if_pos y1, hw2, hw, rd_at y0 y1, if_pos x0, if_pos x1, rd_at x0 x1, ← e1]
   unfold upd
   dsimp only
   by_cases c3 : at_ d y.toNat = n
   ·by_cases c4 : at_ d x.toNat < 0
    ·rw [if_pos c3, if_pos c4, if_pos ⟨c3, c4⟩]
    ·rw [if_pos c3, if_neg c4, if_neg (fun z => c4 z.2)]
   ·rw [if_neg c3, if_neg (fun z => c3 z.1)]
 refine Evl.step (fun k => ?_) key
 rw [dr5_dists.l2, if_pos hi1, if_pos hi0, hx, hy, if_pos x0, if_pos x1, rd_at x0 x1]
 by_cases c1 : at_ d x.toNat = n
 ·rw [if_pos c1, if_pos y0, if_pos y1, rd_at y0 y1]
  congr 1
  simp only [c1, true_and]
 ·rw [if_neg c1, show decide (at_ d x.toNat = n ∧ at_ d y.toNat < 0) = false from dF (fun z => c1 z.1)]
theorem rev_pass {n : Int} (hn : -1000 ≤ n ∧ n ≤ 1000) {P : List S43} {L : List S39} {N : Nat} (hL : L.length ≤ 1000) (hI : InR N L) {a2 a3 a4 a5 a6 a7 a8 a9 a10 a11 a12 : Int} {r : List Int} : ∀ (j : Nat) (i : Nat) (d : List Int), i + j = L.length → d.length = N →
  Evl (fun k => dr5_dists.l1 k (pass n (ends (L.drop i)) d) (n + 1) P L a2 a3 a4 a5 a6 a7 a8 a9 a10 a11 a12) r → Evl (fun k => dr5_dists.l2 k d n (i : Int) P L a2 a3 a4 a5 a6 a7 a8 a9 a10 a11 a12) r
 | 0, i, d, hi, hd, h => by
  have hw2 : wrap64 (n + 1) = n + 1 := by unfold wrap64; omega
  rw [List.drop_of_length_le (by omega)] at h
  refine Evl.step (fun k => ?_) h
  rw [dr5_dists.l2, if_neg (by omega), hw2]
  rfl
 | j + 1, i, d, hi, hd, h => by
  have hh := hI i (by omega) (by omega)
  have hlt : i < L.length := by omega
  have e1 : rd_T39 L (i : Int) = L[i] := by simp [rd_T39, List.getD_eq_getElem?_getD, hlt]
  have hdr : L.drop i = L[i] :: L.drop (i + 1) := List.drop_eq_getElem_cons hlt
  rw [hdr] at h
  obtain ⟨⟨ha0, ha1⟩, ⟨hb0, hb1⟩⟩ := hh
  have hs : pass n (ends (L[i] :: L.drop (i + 1))) d = pass n (ends (L.drop (i + 1))) (upd n (upd n d ((rd_T39 L i).f0.toNat, (rd_T39 L i).f1.toNat)) ((rd_T39 L i).f1.toNat, (rd_T39 L i).f0.toNat)) := by
   rw [e1]
   rfl
  rw [hs] at h
  refine rev_link hn hL (by omega) (by omega) rfl rfl ha0 (by omega) hb0 (by omega) ?_
  exact rev_pass hn hL hI j (i + 1) _ (by omega) (by rw [Hops.upd_len, Hops.upd_len]; exact hd) h
theorem rev_passes {P : List S43} {L : List S39} {N a : Nat} (hN : N ≤ 100) (hL : L.length ≤ 1000) (hI : InR N L) {a2 a3 a4 a5 a6 a7 a8 a9 a10 a11 a12 : Int} : ∀ (j m : Nat), m + j = N →
  Evl (fun k => dr5_dists.l1 k (passes (ends L) (bgn N a) m) (m : Int) P L a2 a3 a4 a5 a6 a7 a8 a9 a10 a11 a12) (far (ends L) N a)
 | 0, m, hm => by
  have : m = N := by omega
  subst this
  refine Evl.stop (fun k => ?_)
  rw [dr5_dists.l1, if_neg (by rw [Hops.passes_len, Hops.bgn_len]; omega)]
  rfl
 | j + 1, m, hm => by
  refine Evl.step (fun k => by rw [dr5_dists.l1, if_pos (by rw [Hops.passes_len, Hops.bgn_len]; omega)]) ?_
  refine rev_pass (by omega) hL hI L.length 0 _ (by omega) (by rw [Hops.passes_len, Hops.bgn_len]) ?_
  rw [List.drop_zero]
  exact rev_passes hN hL hI j (m + 1) (by omega)
theorem rev_fill {P : List S43} {L : List S39} {N : Nat} {a : Int} (hN : N ≤ 100) (hL : L.length ≤ 1000) (hI : InR N L) (h0 : 0 ≤ a) (h1 : a < N) {a2 a3 a4 a5 a6 a7 a8 a9 a10 a11 a12 : Int} : ∀ (j i : Nat), i + j = N →
  Evl (fun k => dr5_dists.l0 k a (List.replicate i (-1) ++ List.replicate j 0) (i : Int) P L a2 a3 a4 a5 a6 a7 a8 a9 a10 a11 a12) (far (ends L) N a.toNat)
 | 0, i, hi => by
  have : i = N := by omega
  subst this
  refine Evl.step (h := fun k => dr5_dists.l1 k (bgn i a.toNat) 0 P L a2 a3 a4 a5 a6 a7 a8 a9 a10 a11 a12) (fun k => ?_) (rev_passes hN hL hI i 0 (by omega))
  rw [dr5_dists.l0, if_neg (by simp), if_pos h0, if_pos (by simpa using h1)]
  simp [bgn]
 | j + 1, i, hi => by
  have hw : wrap64 ((i : Int) + 1) = (i : Int) + 1 := by unfold wrap64; omega
  have hl : (List.replicate i (-1 : Int) ++ List.replicate (j + 1) 0).set (i : Int).toNat (-1) = List.replicate (i + 1) (-1) ++ List.replicate j 0 := by
   rw [Int.toNat_natCast, List.set_append_right _ _ (by simp)]
   simp only [List.length_replicate, Nat.sub_self, List.replicate_succ, List.set_cons_zero]
   rw [← List.replicate_succ, List.replicate_succ', List.append_assoc]
   rfl
  refine Evl.step (h := fun k => dr5_dists.l0 k a (List.replicate (i + 1) (-1) ++ List.replicate j 0) ((i + 1 : Nat) : Int) P L a2 a3 a4 a5 a6 a7 a8 a9 a10 a11 a12) (fun k => ?_) (rev_fill hN hL hI h0 h1 j (i + 1) (by omega))
  rw [dr5_dists.l0, if_pos (by simp; omega), if_pos (by omega), hw, hl]
  rfl
theorem rdists_ev (P : List S43) (L : List S39) (a2 a3 a4 a5 a6 a7 a8 a9 a10 a11 a12 a : Int) (hN : P.length ≤ 6) (hL : L.length ≤ 1000) (hI : InR P.length L) (h0 : 0 ≤ a) (h1 : a < P.length) : Evl (fun k => dr5_dists.f k P L a2 a3 a4 a5 a6 a7 a8 a9 a10 a11 a12 a) (far (ends L) P.length a.toNat) := by
 have e : ∀ k, dr5_dists.f k P L a2 a3 a4 a5 a6 a7 a8 a9 a10 a11 a12 a = dr5_dists.l0 k a (List.replicate 0 (-1) ++ List.replicate P.length 0) ((0 : Nat) : Int) P L a2 a3 a4 a5 a6 a7 a8 a9 a10 a11 a12 := by
  intro k
  unfold dr5_dists.f
  rw [if_pos (by omega), if_pos (by omega)]
  rfl
 exact Evl.congr e (rev_fill (by omega) hL hI h0 h1 P.length 0 (by omega))
theorem index_go {d : List Int} {v : Int} (hd : d.length ≤ 1000) : ∀ (j i : Nat), i + j = d.length → (∀ q : Nat, q < i → rd d q ≠ v) → ∃ r : Int, Evl (fun k => slices_Index_int_int.l0 k d v (d.length : Int) (i : Int)) r ∧ -1 ≤ r ∧ (r < 0 ↔ ∀ x, x ∈ d → x ≠ v)
 | 0, i, hi, h => ⟨-1, Evl.stop (fun k => by rw [slices_Index_int_int.l0, if_neg (by omega)]), by omega, ⟨fun _ x hx => by
   obtain ⟨q, hq, rfl⟩ := List.getElem_of_mem hx
   have := h q (by omega)
   simpa [rd, List.getD_eq_getElem?_getD, hq] using this, fun _ => by omega⟩⟩
 | j + 1, i, hi, h => by
  have hw : wrap64 ((i : Int) + 1) = (i : Int) + 1 := by unfold wrap64; omega
  by_cases c : v = rd d i
  ·refine ⟨i, Evl.stop (fun k => by rw [slices_Index_int_int.l0, if_pos (by omega), if_pos (by omega), if_pos (by omega), if_pos c]), by omega, ⟨fun hh => by omega, fun hh => ?_⟩⟩
   have hlt : i < d.length := by omega
   have hm := hh d[i] (List.getElem_mem hlt)
   exact absurd (by rw [c]; simp [rd, List.getD_eq_getElem?_getD, hlt]) hm
  ·obtain ⟨r, h1, h2, h3⟩ := index_go hd j (i + 1) (by omega) (fun q hq => by
    by_cases e : q = i
    ·subst e; exact fun z => c z.symm
    ·exact h q (by omega))
   exact ⟨r, Evl.step (fun k => by rw [slices_Index_int_int.l0, if_pos (by omega), if_pos (by omega), if_pos (by omega), if_neg c, hw]; rfl) h1, h2, h3⟩
theorem index_ev (d : List Int) (hd : d.length ≤ 1000) (v : Int) : ∃ r : Int, Evl (fun k => slices_Index_int_int.f k d v) r ∧ -1 ≤ r ∧ (r < 0 ↔ ∀ x, x ∈ d → x ≠ v) := by
 obtain ⟨r, h1, h2⟩ := index_go (v := v) hd d.length 0 (by omega) (fun q hq => absurd hq (by omega))
 exact ⟨r, h1, h2⟩
end Go.Proofs.YtbefbhghmommhaaDoor.MWo
