/- WatchOrder in plain Lean: both ways of looking at the order come to the same, and what a log keeps stands in order. -/
import Derived.Test.YtbiofobpafpgfaaDoorHWl
import Derived.Test.YtbiofobpafpgfaaDoorOpenW
import Derived.Test.YtbiofobpafpgfaaDoorEvl
set_option linter.unusedVariables false
set_option linter.unusedSimpArgs false
set_option maxRecDepth 100000
namespace Go.Proofs.YtbiofobpafpgfaaDoor.MWo
open Go.RowKit Go.Proofs.YtbiofobpafpgfaaDoorW.PrintWords Go.Proofs.YtbiofobpafpgfaaDoorW.PrintLast Go.Proofs.YtbiofobpafpgfaaDoorW.PrintMore Go.Proofs.YtbiofobpafpgfaaDoor.Evl Go.Proofs.YtbiofobpafpgfaaDoor.Opn
/-- Each sender's last number behind a list. -/
def fin (g : Int → Int) : List S52 → (Int → Int)
  | [] => g
  | x :: t => fin (upd g x.f0 x.f1) t
theorem fin_snoc (p : S52) : ∀ (L : List S52) (g : Int → Int), fin g (L ++ [p]) = upd (fin g L) p.f0 p.f1
  | [], g => rfl
  | x :: t, g => fin_snoc p t _
theorem ordM_snoc (p : S52) : ∀ (L : List S52) (g : Int → Int), ordM g L = true → ¬ p.f1 ≤ fin g L p.f0 → (p.f2 != (wrap64 (p.f1 - 1) != fin g L p.f0)) = false → ordM g (L ++ [p]) = true
  | [], g, _, h1, h2 => by
    show (if p.f1 ≤ g p.f0 then false else if (p.f2 != (wrap64 (p.f1 - 1) != g p.f0)) = true then false else true) = true
    rw [if_neg (show ¬ p.f1 ≤ g p.f0 from h1), if_neg (by rw [show (p.f2 != (wrap64 (p.f1 - 1) != g p.f0)) = false from h2]; decide)]
  | x :: t, g, h, h1, h2 => by
    have hx : ordM g (x :: t) = if x.f1 ≤ g x.f0 then false else if (x.f2 != (wrap64 (x.f1 - 1) != g x.f0)) = true then false else ordM (upd g x.f0 x.f1) t := rfl
    rw [hx] at h
    by_cases k1 : x.f1 ≤ g x.f0
    · rw [if_pos k1] at h; exact absurd h (by decide)
    rw [if_neg k1] at h
    by_cases k2 : (x.f2 != (wrap64 (x.f1 - 1) != g x.f0)) = true
    · rw [if_pos k2] at h; exact absurd h (by decide)
    rw [if_neg k2] at h
    show (if x.f1 ≤ g x.f0 then false else if (x.f2 != (wrap64 (x.f1 - 1) != g x.f0)) = true then false else ordM (upd g x.f0 x.f1) (t ++ [p])) = true
    rw [if_neg k1, if_neg k2]
    exact ordM_snoc p t _ h h1 h2
theorem wf_int {a : Int} (h0 : 0 ≤ a) (h1 : a ≤ 100) : (Lit.int .i64 a).wf = true := by
  simp [Lit.wf, IntKind.min, IntKind.max, IntKind.signed, IntKind.bits]; omega
/-- What is kept of a log: it stands in order, and the log's own numbers are the last ones. -/
structure Kept (f : Nat → Int) (L : List S52) (n : Nat) : Prop where
  ord : ordM (fun _ => 0) L = true
  last : ∀ i : Nat, i < 6 → fin (fun _ => 0) L (i : Int) = f i
  len : L.length ≤ n
  wf : ∀ y ∈ L, (Lit.int .i64 y.f0).wf = true ∧ (Lit.int .i64 y.f1).wf = true
theorem kept_hand {f : Nat → Int} {L : List S52} {n : Nat} (h : Kept f L n) (fr sq : Int) (b : List Int) (hs : (Lit.int .i64 sq).wf = true) : Kept (handF f L fr sq b).2.1 (handF f L fr sq b).2.2 (n + 1) := by
  unfold handF
  by_cases k : fr < 0 ∨ 6 ≤ fr ∨ 0 ≤ fr ∧ fr < 6 ∧ sq ≤ f fr.toNat
  · rw [if_pos k]
    exact ⟨h.ord, h.last, Nat.le_succ_of_le h.len, h.wf⟩
  · rw [if_neg k]
    have hf : fin (fun _ => 0) L fr = f fr.toNat := by
      have := h.last fr.toNat (by omega)
      rwa [show ((fr.toNat : Nat) : Int) = fr by omega] at this
    refine ⟨?_, fun i hi => ?_, by have := h.len; simp; omega, fun y hy => ?_⟩
    · refine ordM_snoc _ L _ h.ord ?_ ?_
      · show ¬ sq ≤ fin (fun _ => 0) L fr
        rw [hf]; omega
      · show ((wrap64 (sq - 1) != f fr.toNat) != (wrap64 (sq - 1) != fin (fun _ => 0) L fr)) = false
        rw [hf]; cases (wrap64 (sq - 1) != f fr.toNat) <;> rfl
    · rw [fin_snoc]
      show (if (i : Int) = fr then sq else fin (fun _ => 0) L (i : Int)) = if i = fr.toNat then sq else f i
      by_cases e : (i : Int) = fr
      · rw [if_pos e, if_pos (by omega)]
      · rw [if_neg e, if_neg (by omega), h.last i hi]
    · rcases List.mem_append.1 hy with hy | hy
      · exact h.wf y hy
      · simp only [List.mem_singleton] at hy
        subst hy
        exact ⟨wf_int (a := fr) (by omega) (by omega), hs⟩
theorem kept_log : ∀ (x : List Itm) (f : Nat → Int) (L : List S52) (n : Nat), Kept f L n → (∀ y ∈ x, (Lit.int .i64 y.f2).wf = true) → ∃ f', Kept f' (logF f L x) (n + x.length)
  | [], f, L, n, h, _ => ⟨f, h⟩
  | y :: t, f, L, n, h, hw => by
    obtain ⟨f', h'⟩ := kept_log t _ _ (n + 1) (kept_hand h y.f0 y.f2 y.f3 (hw y (by simp))) (fun z hz => hw z (by simp [hz]))
    refine ⟨f', ?_⟩
    have e : n + (y :: t).length = n + 1 + t.length := by simp; omega
    rw [e]
    exact h'
/-- The last number of one sender, behind a list. -/
def lastR (q : Int) : List S52 → Int → Int
  | [], a => a
  | y :: t, a => lastR q t (if y.f0 = q then y.f1 else a)
theorem lastR_snoc (q : Int) (p : S52) : ∀ (L : List S52) (a : Int), lastR q (L ++ [p]) a = if p.f0 = q then p.f1 else lastR q L a
  | [], a => rfl
  | y :: t, a => lastR_snoc q p t _
theorem fin_last (q : Int) : ∀ (L : List S52) (g : Int → Int), fin g L q = lastR q L (g q)
  | [], g => rfl
  | y :: t, g => by
    show fin (upd g y.f0 y.f1) t q = lastR q t (if y.f0 = q then y.f1 else g q)
    rw [fin_last q t]
    congr 1
    unfold upd
    by_cases e : q = y.f0
    · rw [if_pos e, if_pos e.symm]
    · rw [if_neg e, if_neg (fun h => e h.symm)]
theorem rd_get {l : List S52} {i : Nat} (h : i < l.length) : rd_T52 l (i : Int) = l[i] := by simp [rd_T52, h]
theorem w64s {i : Nat} (h : i < 1000000) : wrap64 ((i : Int) + 1) = ((i + 1 : Nat) : Int) := by unfold wrap64; omega
theorem scan {l : List S52} (hl : l.length ≤ 60) {i : Nat} (hi : i < l.length) {R : Bool} (hR : Evl (fun k => if l[i].f1 ≤ lastR l[i].f0 (l.take i) 0 then some false else if (l[i].f2 != (wrap64 (l[i].f1 - 1) != lastR l[i].f0 (l.take i) 0)) = true then some false else drumlineref26_Order.l0 k l ((i + 1 : Nat) : Int)) R) :
    ∀ (d j : Nat), j + d = i → Evl (fun k => drumlineref26_Order.l1 k l (i : Int) (lastR l[i].f0 (l.take j) 0) (j : Int)) R
  | 0, j, h => by
    obtain rfl : j = i := by omega
    refine Evl.succ ?_
    simp only [drumlineref26_Order.l1]
    simp only [if_neg (show ¬ ((j : Int) < (j : Int)) by omega), if_pos (show (0 : Int) ≤ (j : Int) by omega), if_pos (show (j : Int) < (l.length : Int) by omega), rd_get hi, w64s (show j < 1000000 by omega)]
    exact hR
  | d + 1, j, h => by
    have hj : j < l.length := by omega
    refine Evl.succ ?_
    simp only [drumlineref26_Order.l1]
    simp only [if_pos (show (j : Int) < (i : Int) by omega), if_pos (show (0 : Int) ≤ (j : Int) by omega), if_pos (show (j : Int) < (l.length : Int) by omega), if_pos (show (0 : Int) ≤ (i : Int) by omega), if_pos (show (i : Int) < (l.length : Int) by omega), rd_get hi, rd_get hj, w64s (show j < 1000000 by omega)]
    have ih := scan hl hi hR d (j + 1) (by omega)
    rw [List.take_add_one, List.getElem?_eq_getElem hj, Option.toList, lastR_snoc] at ih
    by_cases e : l[j].f0 = l[i].f0
    · simp only [if_pos e] at ih ⊢
      exact ih
    · simp only [if_neg e] at ih ⊢
      exact ih
theorem order_loop {l : List S52} (hl : l.length ≤ 60) : ∀ (d i : Nat), i + d = l.length → Evl (fun k => drumlineref26_Order.l0 k l (i : Int)) (ordM (fin (fun _ => 0) (l.take i)) (l.drop i))
  | 0, i, h => by
    refine Evl.succ ?_
    simp only [drumlineref26_Order.l0]
    simp only [if_neg (show ¬ ((i : Int) < (l.length : Int)) by omega), List.drop_eq_nil_iff.2 (show l.length ≤ i by omega)]
    exact Evl.now fun _ => rfl
  | d + 1, i, h => by
    have hi : i < l.length := by omega
    have ih := order_loop hl d (i + 1) (by omega)
    refine Evl.succ ?_
    simp only [drumlineref26_Order.l0]
    simp only [if_pos (show (i : Int) < (l.length : Int) by omega)]
    rw [List.drop_eq_getElem_cons hi]
    have hs := scan hl hi (R := ordM (fin (fun _ => 0) (l.take i)) (l[i] :: l.drop (i + 1))) ?_ i 0 (by omega)
    · exact hs
    · have hf : fin (fun _ => 0) (l.take i) l[i].f0 = lastR l[i].f0 (l.take i) 0 := fin_last _ _ _
      show Evl _ (if l[i].f1 ≤ fin (fun _ => 0) (l.take i) l[i].f0 then false else if (l[i].f2 != (wrap64 (l[i].f1 - 1) != fin (fun _ => 0) (l.take i) l[i].f0)) = true then false else ordM (upd (fin (fun _ => 0) (l.take i)) l[i].f0 l[i].f1) (l.drop (i + 1)))
      rw [hf]
      by_cases k1 : l[i].f1 ≤ lastR l[i].f0 (l.take i) 0
      · simp only [if_pos k1]; exact Evl.now fun _ => rfl
      simp only [if_neg k1]
      by_cases k2 : (l[i].f2 != (wrap64 (l[i].f1 - 1) != lastR l[i].f0 (l.take i) 0)) = true
      · simp only [if_pos k2]; exact Evl.now fun _ => rfl
      simp only [if_neg k2]
      rw [List.take_add_one, List.getElem?_eq_getElem hi, Option.toList, fin_snoc] at ih
      exact ih
theorem order_evl {l : List S52} (hl : l.length ≤ 60) : Evl (fun k => drumlineref26_Order.f k l) (ordM (fun _ => 0) l) := order_loop hl l.length 0 (by omega)
theorem law_calls (A0 : Option Addr) (c0 : Nat) (l : List S52) (A1 : Option Addr) (c1 : Nat) (x : List Itm) (r : Bool) (w : World) (hr0 : Kd.C k52 w A0 l.length l) (hc0 : l.length ≤ c0) (hr1 : Kd.C itk w A1 x.length x) (hc1 : x.length ≤ c1) (h : ((∀ y ∈ l, goodG y) ∧ (∀ y ∈ x, goodI y)) ∧ r = true) :
    Calls Tryd.prog 3 #[.slice A0 l.length c0, .slice A1 x.length c1] w fun e w' => e = .returned (.bool r) ∧ Below w.heap.size w w' := by
  obtain ⟨⟨hg, hi⟩, rfl⟩ := h
  by_cases hl : 60 < l.length ∨ 60 < x.length
  · exact long_walk A0 A1 c0 c1 _ _ w hl
  · have h1 : l.length ≤ 60 := by omega
    have h2 : x.length ≤ 60 := by omega
    obtain ⟨k, hk⟩ := (order_evl h1).some_
    obtain ⟨f', hK⟩ := kept_log x (fun _ => 0) [] 0 ⟨rfl, fun _ _ => rfl, Nat.le_refl _, by simp⟩ (fun y hy => (hi y hy).2.1)
    exact law_walk k A0 A1 c0 c1 l x w hr0 hc0 hr1 hc1 h1 h2 (fun y hy => (hi y hy).2.2) (fun y hy => hg y hy) ⟨by have := hK.len; omega, hK.wf, hK.ord⟩ hk
end Go.Proofs.YtbiofobpafpgfaaDoor.MWo
