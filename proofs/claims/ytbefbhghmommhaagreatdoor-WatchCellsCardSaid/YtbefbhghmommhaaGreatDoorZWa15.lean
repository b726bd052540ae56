/- Texts of this claim, laid together by a program (wip/g/merge3.py): PuW, PuSk, PuSm, MWox80, MWox65, MWox13, MWox14, Hr, MWox15. -/
import Derived.Test.YtbefbhghmommhaaGreatDoorZWa8
import Derived.Test.YtbefbhghmommhaaGreatDoorZWa9
import Derived.Test.YtbefbhghmommhaaGreatDoorZWa10
import Derived.Test.YtbefbhghmommhaaGreatDoorZWa11
import Derived.Test.YtbefbhghmommhaaGreatDoorZWa12
import Derived.Test.YtbefbhghmommhaaGreatDoorZWa13
import Derived.Test.YtbefbhghmommhaaGreatDoorZWa3
set_option linter.unusedVariables false
set_option linter.unusedSimpArgs false
set_option maxRecDepth 100000
namespace Go.Proofs.YtbefbhghmommhaaGreatDoor.MWo
open Go.RowKit Go.Proofs.YtbefbhghmommhaaGreatDoorW.PrintWords Go.Proofs.YtbefbhghmommhaaGreatDoorW.PrintLast Go.Proofs.YtbefbhghmommhaaGreatDoorW.PrintMore Go.Proofs.YtbefbhghmommhaaGreatDoor.Evl
theorem rsynced_loop {l : List S55} (hl : l.length ≤ 1000000) (a1 : Bool) (a2 : Int) (l3 : List Int) : ∀ (d i : Nat) (o : List S55), i + d = l.length → o.length ≤ i → Evl (fun k => dr26_synced.l0 k o (i : Int) l a1 a2 l3) (o ++ syn (l.drop i))
 | 0, i, o, h, _ => by
  refine Evl.succ ?_
  simp only [dr26_synced.l0]
  simp only [if_neg (show ¬ ((i : Int) < (l.length : Int)) by omega), List.drop_eq_nil_iff.2 (show l.length ≤ i by omega)]
  exact Evl.now fun _ => by simp [syn]
 | d + 1, i, o, h, ho => by
  have hi : i < l.length := by omega
  refine Evl.succ ?_
  simp only [dr26_synced.l0]
  simp only [if_pos (show (i : Int) < (l.length : Int) by omega), if_pos (show (0 : Int) ≤ (i : Int) by omega), w64n (show i < 2000000 by omega), if_pos (show o.length < 1759218604441 by omega)]
  rw [List.drop_eq_getElem_cons hi]
  have hr : rd_T55 l (i : Int) = l[i] := by rw [rd_n (by omega) (by omega)]; simp
  simp only [hr]
  by_cases e : (l[i]).f0 = 2
  ·simp only [if_pos e]
   have ih := rsynced_loop hl a1 a2 l3 d (i + 1) (o ++ [l[i]]) (by omega) (by simp; omega)
   have e2 : syn (l[i] :: l.drop (i + 1)) = l[i] :: syn (l.drop (i + 1)) := by unfold syn; rw [List.filter_cons, if_pos (by simp [e])]
   rw [e2]
   rw [List.append_assoc] at ih
   exact ih
  ·simp only [if_neg e]
   have ih := rsynced_loop hl a1 a2 l3 d (i + 1) o (by omega) (by omega)
   have e2 : syn (l[i] :: l.drop (i + 1)) = syn (l.drop (i + 1)) := by unfold syn; rw [List.filter_cons, if_neg (by simp [e])]
   rw [e2]
   exact ih
theorem rsynced_evl {l : List S55} (hl : l.length ≤ 1000000) (a1 : Bool) (a2 : Int) (l3 : List Int) : Evl (fun k => dr26_synced.f k l a1 a2 l3) (syn l) := rsynced_loop hl a1 a2 l3 l.length 0 [] (by omega) (by simp)
theorem rstarts_loop {l : List S55} (hl : l.length ≤ 1000000) : ∀ (d i : Nat) (o : List Int), i + d = l.length → o.length ≤ i → Evl (fun k => dr26_starts.l0 k l o (i : Int)) (o ++ (l.drop i).map (·.f3))
 | 0, i, o, h, _ => by
  refine Evl.succ ?_
  simp only [dr26_starts.l0]
  simp only [if_neg (show ¬ ((i : Int) < (l.length : Int)) by omega), List.drop_eq_nil_iff.2 (show l.length ≤ i by omega)]
  exact Evl.now fun _ => by simp
 | d + 1, i, o, h, ho => by
  have hi : i < l.length := by omega
  refine Evl.succ ?_
  simp only [dr26_starts.l0]
  simp only [if_pos (show (i : Int) < (l.length : Int) by omega), if_pos (show (0 : Int) ≤ (i : Int) by omega), w64n (show i < 2000000 by omega), if_pos (show o.length < 17592186044416 by omega)]
  rw [List.drop_eq_getElem_cons hi]
  have hr : rd_T55 l (i : Int) = l[i] := by rw [rd_n (by omega) (by omega)]; simp
  simp only [hr]
  have ih := rstarts_loop hl d (i + 1) (o ++ [(l[i]).f3]) (by omega) (by simp; omega)
  rw [List.append_assoc] at ih
  exact ih
theorem rstarts_evl {l : List S55} (hl : l.length ≤ 1000000) : Evl (fun k => dr26_starts.f k l) (l.map (·.f3)) := by
 have h := rstarts_loop hl l.length 0 [] (by omega) (by simp)
 exact h
theorem rd_i {l : List Int} {i : Nat} (h : i < l.length) : rd l (i : Int) = l[i] := by simp [rd, h]
theorem rtimes_loop {l : List Int} (hl : l.length ≤ 1000000) : ∀ (d i : Nat), i + d = l.length → Evl (fun k => dr10_times.l0 k l (i : Int)) ((l.drop i).all timeB)
 | 0, i, h => by
  refine Evl.succ ?_
  simp only [dr10_times.l0]
  simp only [if_neg (show ¬ ((i : Int) < (l.length : Int)) by omega), List.drop_eq_nil_iff.2 (show l.length ≤ i by omega)]
  exact Evl.now fun _ => rfl
 | d + 1, i, h => by
  have hi : i < l.length := by omega
  refine Evl.succ ?_
  simp only [dr10_times.l0]
  simp only [if_pos (show (i : Int) < (l.length : Int) by omega), if_pos (show (0 : Int) ≤ (i : Int) by omega), w64n (show i < 2000000 by omega), rd_i hi]
  rw [List.drop_eq_getElem_cons hi]
  have hT : dr1_Time.f l[i] = some (timeB l[i]) := by
   unfold dr1_Time.f timeB
   by_cases h : l[i] ≥ -1099511627776
   ·rw [if_pos h, show decide (-1099511627776 ≤ l[i]) = true from decide_eq_true h, Bool.true_and]
   ·rw [if_neg h, show decide (-1099511627776 ≤ l[i]) = false from decide_eq_false h, Bool.false_and]
  simp only [hT, Option.bind_some, List.all_cons]
  cases hb : timeB l[i] with
  | false =>
   exact Evl.now fun _ => rfl
  | true =>
   have ih := rtimes_loop hl d (i + 1) (by omega)
   simp only [if_true, Bool.true_and]
   exact ih
theorem rtimes_evl {l : List Int} (hl : l.length ≤ 1000000) : Evl (fun k => dr10_times.f k l) (l.all timeB) := rtimes_loop hl l.length 0 (by omega)
theorem mx_max (a b : Int) : mx a b = max a b := by unfold mx; omega
theorem mn_min (a b : Int) : mn a b = min a b := by unfold mn; omega
theorem rspread_loop {l : List Int} (hl : l.length ≤ 1000000) : ∀ (d i : Nat) (a b : Int), i + d = l.length → Evl (fun k => dr10_Spread.l0 k l a b (i : Int)) (wrap64 ((l.drop i).foldl max b - (l.drop i).foldl min a), true)
 | 0, i, a, b, h => by
  refine Evl.succ ?_
  simp only [dr10_Spread.l0]
  simp only [if_neg (show ¬ ((i : Int) < (l.length : Int)) by omega), List.drop_eq_nil_iff.2 (show l.length ≤ i by omega)]
  exact Evl.now fun _ => rfl
 | d + 1, i, a, b, h => by
  have hi : i < l.length := by omega
  refine Evl.succ ?_
  simp only [dr10_Spread.l0]
  simp only [if_pos (show (i : Int) < (l.length : Int) by omega), if_pos (show (0 : Int) ≤ (i : Int) by omega), w64n (show i < 2000000 by omega), rd_i hi, mx_max, mn_min]
  rw [List.drop_eq_getElem_cons hi]
  have ih := rspread_loop hl d (i + 1) (min a l[i]) (max b l[i]) (by omega)
  exact ih
theorem any_all {α : Type} (p : α → Bool) (l : List α) : (l.any fun x => !p x) = !(l.all p) := by
 induction l with
 | nil => rfl
 | cons x t ih => simp [ih, Bool.not_and]
theorem rspread_evl {l : List Int} (hl : l.length ≤ 1000000) : Evl (fun k => dr10_Spread.f k l) (sprd l) := by
 unfold dr10_Spread.f sprd
 by_cases h0 : l = []
 ·subst h0
  simp only [List.length_nil, Int.ofNat_zero, if_true, true_or]
  exact Evl.succ (Evl.now fun _ => by simp [dr10_Spread.j0])
 ·have hn : 0 < l.length := List.length_pos_iff.2 h0
  simp only [if_neg (show ¬ ((l.length : Int) = 0) by omega)]
  refine Evl.bind (rtimes_evl hl) ?_
  rw [any_all]
  cases hb : l.all timeB with
  | false =>
   rw [if_pos (show l = [] ∨ (!false) = true from Or.inr rfl)]
   exact Evl.succ (Evl.now fun _ => by simp [dr10_Spread.j0])
  | true =>
   rw [if_neg (by rintro (h | h); exact h0 h; exact absurd h (by decide))]
   refine Evl.succ ?_
   simp only [dr10_Spread.j0]
   simp only [show ((!true) = true) = False by simp, if_false, if_pos (show (0 : Int) < (l.length : Int) by omega)]
   have := rspread_loop hl l.length 0 (rd l 0) (rd l 0) (by omega)
   have e : rd l 0 = l.headD 0 := by cases l <;> simp [rd]
   rw [e] at this ⊢
   exact this
theorem rsame_loop {l m : List Int} (hl : l.length ≤ 1000000) (hm : l.length = m.length) : ∀ (d i : Nat), i + d = l.length → Evl (fun k => dr1_SameInts.l0 k l m (i : Int)) (decide (l.drop i = m.drop i))
 | 0, i, h => by
  refine Evl.succ ?_
  simp only [dr1_SameInts.l0]
  simp only [if_neg (show ¬ ((i : Int) < (l.length : Int)) by omega), List.drop_eq_nil_iff.2 (show l.length ≤ i by omega), List.drop_eq_nil_iff.2 (show m.length ≤ i by omega)]
  exact Evl.now fun _ => rfl
 | d + 1, i, h => by
  have hi : i < l.length := by omega
  have hj : i < m.length := by omega
  refine Evl.succ ?_
  simp only [dr1_SameInts.l0]
  simp only [if_pos (show (i : Int) < (l.length : Int) by omega), if_pos (show (i : Int) < (m.length : Int) by omega), if_pos (show (0 : Int) ≤ (i : Int) by omega), w64n (show i < 2000000 by omega), rd_i hi, rd_i hj]
  rw [List.drop_eq_getElem_cons hi, List.drop_eq_getElem_cons hj]
  have ih := rsame_loop hl hm d (i + 1) (by omega)
  by_cases e : l[i] = m[i]
  ·simp only [if_pos e]
   have e2 : decide (l[i] :: l.drop (i + 1) = m[i] :: m.drop (i + 1)) = decide (l.drop (i + 1) = m.drop (i + 1)) := by
    apply decide_eq_decide.2
    rw [List.cons.injEq]
    exact ⟨fun h => h.2, fun h => ⟨e, h⟩⟩
   rw [e2]
   exact ih
  ·simp only [if_neg e]
   have e2 : decide (l[i] :: l.drop (i + 1) = m[i] :: m.drop (i + 1)) = false := decide_eq_false (fun h => e (List.cons.inj h).1)
   rw [e2]
   exact Evl.now fun _ => rfl
theorem rsame_evl {l m : List Int} (hl : l.length ≤ 1000000) : Evl (fun k => dr1_SameInts.f k l m) (decide (l = m)) := by
 unfold dr1_SameInts.f
 by_cases h : l.length = m.length
 ·simp only [if_pos (show ((l.length : Int) = (m.length : Int)) by omega)]
  exact rsame_loop hl h l.length 0 (by omega)
 ·simp only [if_neg (show ¬ ((l.length : Int) = (m.length : Int)) by omega)]
  rw [show decide (l = m) = false from decide_eq_false (fun e => h (by rw [e]))]
  exact Evl.now fun _ => rfl
theorem unlike_self (y : S55) : unlike y y = false := by simp [unlike]
end Go.Proofs.YtbefbhghmommhaaGreatDoor.MWo
set_option linter.unusedVariables false
set_option linter.unusedSimpArgs false
set_option maxRecDepth 100000
namespace Go.Proofs.YtbefbhghmommhaaGreatDoor.MWo
open Go.RowKit Go.Proofs.YtbefbhghmommhaaGreatDoorW.PrintWords Go.Proofs.YtbefbhghmommhaaGreatDoorW.PrintLast Go.Proofs.YtbefbhghmommhaaGreatDoorW.PrintMore Go.Proofs.YtbefbhghmommhaaGreatDoor.Evl
theorem fmax_ge : ∀ (l : List Int) (a : Int), a ≤ l.foldl max a ∧ ∀ x ∈ l, x ≤ l.foldl max a
 | [], a => ⟨Int.le_refl _, by simp⟩
 | y :: t, a => by
  obtain ⟨h1, h2⟩ := fmax_ge t (max a y)
  refine ⟨Int.le_trans (by omega) h1, fun x hx => ?_⟩
  rcases List.mem_cons.1 hx with rfl | hx
  ·exact Int.le_trans (by omega) h1
  ·exact h2 x hx
theorem fmax_mem : ∀ (l : List Int) (a : Int), l.foldl max a = a ∨ l.foldl max a ∈ l
 | [], a => Or.inl rfl
 | y :: t, a => by
  rcases fmax_mem t (max a y) with h | h
  ·show t.foldl max (max a y) = a ∨ t.foldl max (max a y) ∈ y :: t
   rw [h]
   rcases (show max a y = a ∨ max a y = y by omega) with e | e
   ·exact Or.inl e
   ·rw [e]; exact Or.inr List.mem_cons_self
  ·exact Or.inr (List.mem_cons_of_mem _ h)
theorem fmin_le : ∀ (l : List Int) (a : Int), l.foldl min a ≤ a ∧ ∀ x ∈ l, l.foldl min a ≤ x
 | [], a => ⟨Int.le_refl _, by simp⟩
 | y :: t, a => by
  obtain ⟨h1, h2⟩ := fmin_le t (min a y)
  refine ⟨Int.le_trans h1 (by omega), fun x hx => ?_⟩
  rcases List.mem_cons.1 hx with rfl | hx
  ·exact Int.le_trans h1 (by omega)
  ·exact h2 x hx
theorem fmin_mem : ∀ (l : List Int) (a : Int), l.foldl min a = a ∨ l.foldl min a ∈ l
 | [], a => Or.inl rfl
 | y :: t, a => by
  rcases fmin_mem t (min a y) with h | h
  ·show t.foldl min (min a y) = a ∨ t.foldl min (min a y) ∈ y :: t
   rw [h]
   rcases (show min a y = a ∨ min a y = y by omega) with e | e
   ·exact Or.inl e
   ·rw [e]; exact Or.inr List.mem_cons_self
  ·exact Or.inr (List.mem_cons_of_mem _ h)
theorem head_mem {l : List Int} (h : l ≠ []) : l.headD 0 ∈ l := by
 cases l with
 | nil => exact absurd rfl h
 | cons y t => simp
theorem maxOf_mem {l : List Int} (h : l ≠ []) : Lib.maxOf l ∈ l := by
 rcases fmax_mem l (l.headD 0) with e | e
 ·unfold Lib.maxOf; rw [e]; exact head_mem h
 ·exact e
theorem minOf_mem {l : List Int} (h : l ≠ []) : Lib.minOf l ∈ l := by
 rcases fmin_mem l (l.headD 0) with e | e
 ·unfold Lib.minOf; rw [e]; exact head_mem h
 ·exact e
theorem le_maxOf {l : List Int} {x : Int} (h : x ∈ l) : x ≤ Lib.maxOf l := (fmax_ge l _).2 x h
theorem minOf_le {l : List Int} {x : Int} (h : x ∈ l) : Lib.minOf l ≤ x := (fmin_le l _).2 x h
theorem sprd_ok {l : List Int} : (sprd l).2 = true ↔ l ≠ [] ∧ l.all timeB = true := by
 unfold sprd
 rw [any_all]
 by_cases h : l = []
 ·simp [h]
 ·cases hb : l.all timeB <;> simp [h, hb]
def skewV (X Y : List Int) : Int × Bool := if (sprd X).2 = true ∧ (sprd Y).2 = true then (mx (wrap64 (Lib.maxOf X - Lib.minOf Y)) (wrap64 (Lib.maxOf Y - Lib.minOf X)), true) else (0, false)
theorem wskew_evl {l m : List S55} (hl : l.length ≤ 1000000) (hm : m.length ≤ 1000000) (a1 : Bool) (a2 : Int) (a3 : List Int) (b1 : Bool) (b2 : Int) (b3 : List Int) :
  Evl (fun k => watch_Skew.f k l a1 a2 a3 m b1 b2 b3) (skewV ((syn l).map (·.f3)) ((syn m).map (·.f3))) := by
 unfold watch_Skew.f
 refine Evl.bind (starts_evl hl a1 a2 a3) ?_
 refine Evl.bind (starts_evl hm b1 b2 b3) ?_
 have h1 : ((syn l).map (·.f3)).length ≤ 1000000 := by have := syn_len l; rw [List.length_map]; omega
 have h2 : ((syn m).map (·.f3)).length ≤ 1000000 := by have := syn_len m; rw [List.length_map]; omega
 generalize (syn l).map (·.f3) = X at h1 ⊢
 generalize (syn m).map (·.f3) = Y at h2 ⊢
 have e1 : gauge_Spread.f X = some ((sprd X).1, (sprd X).2) := if_pos h1
 have e2 : gauge_Spread.f Y = some ((sprd Y).1, (sprd Y).2) := if_pos h2
 simp only [e1, e2, Option.bind_some]
 unfold skewV
 by_cases hX : (sprd X).2 = true
 ·simp only [if_pos hX]
  by_cases hY : (sprd Y).2 = true
  ·rw [if_pos ⟨hX, hY⟩]
   have nX := (sprd_ok.1 hX).1
   have nY := (sprd_ok.1 hY).1
   have lX := List.length_pos_iff.2 nX
   have lY := List.length_pos_iff.2 nY
   refine Evl.succ (Evl.now fun _ => ?_)
   simp only [watch_Skew.j0, hY]
   simp only [show ((!true) = true) = False by simp, if_false]
   rw [show slices_Max_int64_int64.f X = some (Lib.maxOf X) from if_pos ⟨lX, h1⟩, show slices_Min_int64_int64.f Y = some (Lib.minOf Y) from if_pos ⟨lY, h2⟩, show slices_Max_int64_int64.f Y = some (Lib.maxOf Y) from if_pos ⟨lY, h2⟩, show slices_Min_int64_int64.f X = some (Lib.minOf X) from if_pos ⟨lX, h1⟩]
   rfl
  ·rw [if_neg (fun h => hY h.2)]
   refine Evl.succ (Evl.now fun _ => ?_)
   simp only [watch_Skew.j0, show (sprd Y).2 = false by simpa using hY]
   rfl
 ·rw [if_neg (fun h => hX h.1)]
  simp only [if_neg hX]
  exact Evl.succ (Evl.now fun _ => rfl)
def dst (x y : Int) : Int := wrap64 (max x y - min x y)
theorem two_evl (x y : Int) : Evl (fun k => dr10_Spread.f k [x, y]) (if timeB x = true ∧ timeB y = true then (dst x y, true) else (0, false)) := by
 have h := rspread_evl (l := [x, y]) (by simp)
 have e : sprd [x, y] = if timeB x = true ∧ timeB y = true then (dst x y, true) else (0, false) := by
  unfold sprd
  cases hx : timeB x <;> cases hy : timeB y <;> simp [dst, Lib.maxOf, Lib.minOf, hx, hy]
 rw [e] at h
 exact h
def inn (x : Int) (Y : List Int) (m : Int) : Int := Y.foldl (fun m y => max m (dst x y)) m
theorem skew_l1 {X Y : List Int} (hX : X.length ≤ 1000000) (hY : Y.length ≤ 1000000) {i : Nat} (hi : i < X.length) (tx : timeB X[i] = true) (ty : Y.all timeB = true) {R : Int × Bool} : ∀ (d j : Nat) (m : Int), j + d = Y.length → Evl (fun k => dr26_Skew.l0 k X Y (inn X[i] (Y.drop j) m) ((i + 1 : Nat) : Int)) R → Evl (fun k => dr26_Skew.l1 k X Y m (i : Int) (j : Int)) R
 | 0, j, m, h, hR => by
  refine Evl.succ ?_
  simp only [dr26_Skew.l1]
  simp only [if_neg (show ¬ ((j : Int) < (Y.length : Int)) by omega), w64n (show i < 2000000 by omega)]
  rw [List.drop_eq_nil_iff.2 (show Y.length ≤ j by omega)] at hR
  exact hR
 | d + 1, j, m, h, hR => by
  have hj : j < Y.length := by omega
  refine Evl.succ ?_
  simp only [dr26_Skew.l1]
  simp only [if_pos (show (j : Int) < (Y.length : Int) by omega), if_pos (show (i : Int) < (X.length : Int) by omega), if_pos (show (0 : Int) ≤ (i : Int) by omega), if_pos (show (0 : Int) ≤ (j : Int) by omega), w64n (show j < 2000000 by omega), rd_i hi, rd_i hj]
  have t2 := two_evl X[i] Y[j]
  rw [if_pos ⟨tx, List.all_eq_true.1 ty _ (List.getElem_mem hj)⟩] at t2
  refine Evl.bind t2 ?_
  simp only [if_true, mx_max]
  refine skew_l1 hX hY hi tx ty d (j + 1) _ (by omega) ?_
  rw [List.drop_eq_getElem_cons hj] at hR
  exact hR
theorem skew_l0 {X Y : List Int} (hX : X.length ≤ 1000000) (hY : Y.length ≤ 1000000) (tx : X.all timeB = true) (ty : Y.all timeB = true) : ∀ (d i : Nat) (m : Int), i + d = X.length → Evl (fun k => dr26_Skew.l0 k X Y m (i : Int)) ((X.drop i).foldl (fun m x => inn x Y m) m, true)
 | 0, i, m, h => by
  refine Evl.succ ?_
  simp only [dr26_Skew.l0]
  simp only [if_neg (show ¬ ((i : Int) < (X.length : Int)) by omega), List.drop_eq_nil_iff.2 (show X.length ≤ i by omega)]
  exact Evl.now fun _ => rfl
 | d + 1, i, m, h => by
  have hi : i < X.length := by omega
  refine Evl.succ ?_
  simp only [dr26_Skew.l0]
  simp only [if_pos (show (i : Int) < (X.length : Int) by omega)]
  rw [List.drop_eq_getElem_cons hi]
  refine skew_l1 hX hY hi (List.all_eq_true.1 tx _ (List.getElem_mem hi)) ty Y.length 0 m (by omega) ?_
  exact skew_l0 hX hY tx ty d (i + 1) _ (by omega)
theorem bad_l1 {X Y : List Int} (hX : X.length ≤ 1000000) (hY : Y.length ≤ 1000000) {i : Nat} (hi : i < X.length) : ∀ (d j : Nat) (m : Int), j + d = Y.length → (timeB X[i] = true ∧ (Y.drop j).all timeB = true → ∀ m, Evl (fun k => dr26_Skew.l0 k X Y m ((i + 1 : Nat) : Int)) (0, false)) → (¬ timeB X[i] = true → j < Y.length) → Evl (fun k => dr26_Skew.l1 k X Y m (i : Int) (j : Int)) (0, false)
 | 0, j, m, h, hc, hn => by
  refine Evl.succ ?_
  simp only [dr26_Skew.l1]
  simp only [if_neg (show ¬ ((j : Int) < (Y.length : Int)) by omega), w64n (show i < 2000000 by omega)]
  rw [List.drop_eq_nil_iff.2 (show Y.length ≤ j by omega)] at hc
  exact hc ⟨Classical.byContradiction fun hx => by have := hn hx; omega, rfl⟩ m
 | d + 1, j, m, h, hc, hn => by
  have hj : j < Y.length := by omega
  refine Evl.succ ?_
  simp only [dr26_Skew.l1]
  simp only [if_pos (show (j : Int) < (Y.length : Int) by omega), if_pos (show (i : Int) < (X.length : Int) by omega), if_pos (show (0 : Int) ≤ (i : Int) by omega), if_pos (show (0 : Int) ≤ (j : Int) by omega), w64n (show j < 2000000 by omega), rd_i hi, rd_i hj]
  refine Evl.bind (two_evl X[i] Y[j]) ?_
  by_cases ht : timeB X[i] = true ∧ timeB Y[j] = true
  ·simp only [if_pos ht, if_true]
   refine bad_l1 hX hY hi d (j + 1) _ (by omega) (fun h2 => hc ⟨h2.1, ?_⟩) (fun hx => absurd ht.1 hx)
   rw [List.drop_eq_getElem_cons hj, List.all_cons, ht.2, h2.2]
   rfl
  ·simp only [if_neg ht]
   exact Evl.now fun _ => rfl
theorem bad_l0 {X Y : List Int} (hX : X.length ≤ 1000000) (hY : Y.length ≤ 1000000) (nY : Y ≠ []) : ∀ (d i : Nat) (m : Int), i + d = X.length → (¬ (X.drop i).all timeB = true ∨ ¬ Y.all timeB = true ∧ i < X.length) → Evl (fun k => dr26_Skew.l0 k X Y m (i : Int)) (0, false)
 | 0, i, m, h, hb => by
  rcases hb with hb | hb
  ·rw [List.drop_eq_nil_iff.2 (show X.length ≤ i by omega)] at hb
   exact absurd rfl hb
  ·omega
 | d + 1, i, m, h, hb => by
  have hi : i < X.length := by omega
  refine Evl.succ ?_
  simp only [dr26_Skew.l0]
  simp only [if_pos (show (i : Int) < (X.length : Int) by omega)]
  refine bad_l1 hX hY hi Y.length 0 m (by omega) (fun h2 m2 => ?_) (fun _ => List.length_pos_iff.2 nY)
  refine bad_l0 hX hY nY d (i + 1) m2 (by omega) (Or.inl fun h3 => ?_)
  rcases hb with hb | hb
  ·apply hb
   rw [List.drop_eq_getElem_cons hi, List.all_cons, h2.1, h3]
   rfl
  ·exact hb.1 (by simpa using h2.2)
theorem inn_spec (x : Int) : ∀ (Y : List Int) (m : Int), m ≤ inn x Y m ∧ (∀ y ∈ Y, dst x y ≤ inn x Y m) ∧ (inn x Y m = m ∨ ∃ y ∈ Y, inn x Y m = dst x y)
 | [], m => ⟨Int.le_refl _, by simp, Or.inl rfl⟩
 | z :: t, m => by
  obtain ⟨h1, h2, h3⟩ := inn_spec x t (max m (dst x z))
  have e : inn x (z :: t) m = inn x t (max m (dst x z)) := rfl
  rw [e]
  refine ⟨Int.le_trans (by omega) h1, fun y hy => ?_, ?_⟩
  ·rcases List.mem_cons.1 hy with rfl | hy
   ·exact Int.le_trans (by omega) h1
   ·exact h2 y hy
  ·rcases h3 with h3 | ⟨y, hy, h3⟩
   ·rw [h3]
    rcases (show max m (dst x z) = m ∨ max m (dst x z) = dst x z by omega) with e | e
    ·exact Or.inl e
    ·exact Or.inr ⟨z, List.mem_cons_self, e⟩
   ·exact Or.inr ⟨y, List.mem_cons_of_mem _ hy, h3⟩
theorem out_spec (Y : List Int) : ∀ (X : List Int) (m : Int), m ≤ X.foldl (fun m x => inn x Y m) m ∧ (∀ x ∈ X, ∀ y ∈ Y, dst x y ≤ X.foldl (fun m x => inn x Y m) m) ∧ (X.foldl (fun m x => inn x Y m) m = m ∨ ∃ x ∈ X, ∃ y ∈ Y, X.foldl (fun m x => inn x Y m) m = dst x y)
 | [], m => ⟨Int.le_refl _, by simp, Or.inl rfl⟩
 | z :: t, m => by
  obtain ⟨h1, h2, h3⟩ := out_spec Y t (inn z Y m)
  obtain ⟨k1, k2, k3⟩ := inn_spec z Y m
  refine ⟨Int.le_trans k1 h1, fun x hx y hy => ?_, ?_⟩
  ·rcases List.mem_cons.1 hx with rfl | hx
   ·exact Int.le_trans (k2 y hy) h1
   ·exact h2 x hx y hy
  ·rcases h3 with h3 | ⟨x, hx, y, hy, h3⟩
   ·rw [List.foldl_cons, h3]
    rcases k3 with e | ⟨y, hy, e⟩
    ·exact Or.inl e
    ·exact Or.inr ⟨z, List.mem_cons_self, y, hy, e⟩
   ·exact Or.inr ⟨x, List.mem_cons_of_mem _ hx, y, hy, h3⟩
theorem time_bd {x : Int} (h : timeB x = true) : -1099511627776 ≤ x ∧ x ≤ 1099511627776 := by
 simpa [timeB] using h
theorem skew_max {X Y : List Int} (nX : X ≠ []) (nY : Y ≠ []) (tx : X.all timeB = true) (ty : Y.all timeB = true) :
  X.foldl (fun m x => inn x Y m) 0 = mx (wrap64 (Lib.maxOf X - Lib.minOf Y)) (wrap64 (Lib.maxOf Y - Lib.minOf X)) := by
 obtain ⟨h1, h2, h3⟩ := out_spec Y X 0
 have bX := fun x (h : x ∈ X) => time_bd (List.all_eq_true.1 tx x h)
 have bY := fun y (h : y ∈ Y) => time_bd (List.all_eq_true.1 ty y h)
 have a1 := bX _ (maxOf_mem nX)
 have a2 := bX _ (minOf_mem nX)
 have a3 := bY _ (maxOf_mem nY)
 have a4 := bY _ (minOf_mem nY)
 have c1 := minOf_le (maxOf_mem nX)
 have c2 := minOf_le (maxOf_mem nY)
 have hd : ∀ x ∈ X, ∀ y ∈ Y, dst x y = max x y - min x y := fun x hx y hy => by
  have := bX x hx; have := bY y hy
  unfold dst wrap64; omega
 have d1 := h2 _ (maxOf_mem nX) _ (minOf_mem nY)
 have d2 := h2 _ (minOf_mem nX) _ (maxOf_mem nY)
 rw [hd _ (maxOf_mem nX) _ (minOf_mem nY)] at d1
 rw [hd _ (minOf_mem nX) _ (maxOf_mem nY)] at d2
 rw [mx_max, show wrap64 (Lib.maxOf X - Lib.minOf Y) = Lib.maxOf X - Lib.minOf Y by unfold wrap64; omega, show wrap64 (Lib.maxOf Y - Lib.minOf X) = Lib.maxOf Y - Lib.minOf X by unfold wrap64; omega]
 rcases h3 with h3 | ⟨x, hx, y, hy, h3⟩
 ·omega
 ·have := le_maxOf hx; have := minOf_le hx; have := le_maxOf hy; have := minOf_le hy
  rw [hd x hx y hy] at h3
  omega
theorem rskew_evl {l m : List S55} (hl : l.length ≤ 1000000) (hm : m.length ≤ 1000000) (a1 : Bool) (a2 : Int) (a3 : List Int) (b1 : Bool) (b2 : Int) (b3 : List Int) :
  Evl (fun k => dr26_Skew.f k l a1 a2 a3 m b1 b2 b3) (skewV ((syn l).map (·.f3)) ((syn m).map (·.f3))) := by
 unfold dr26_Skew.f
 have s1 := syn_len l
 have s2 := syn_len m
 refine Evl.bind (rsynced_evl hl a1 a2 a3) ?_
 refine Evl.bind (rstarts_evl (by omega)) ?_
 refine Evl.bind (rsynced_evl hm b1 b2 b3) ?_
 refine Evl.bind (rstarts_evl (by omega)) ?_
 have h1 : ((syn l).map (·.f3)).length ≤ 1000000 := by rw [List.length_map]; omega
 have h2 : ((syn m).map (·.f3)).length ≤ 1000000 := by rw [List.length_map]; omega
 generalize (syn l).map (·.f3) = X at h1 ⊢
 generalize (syn m).map (·.f3) = Y at h2 ⊢
 unfold skewV
 by_cases nX : X = []
 ·subst nX
  rw [if_neg (fun h => (sprd_ok.1 h.1).1 rfl)]
  simp only [List.length_nil, Int.ofNat_zero, if_true]
  exact Evl.succ (Evl.now fun _ => rfl)
 ·have lX := List.length_pos_iff.2 nX
  simp only [if_neg (show ¬ ((X.length : Int) = 0) by omega)]
  by_cases nY : Y = []
  ·subst nY
   rw [if_neg (fun h => (sprd_ok.1 h.2).1 rfl)]
   exact Evl.succ (Evl.now fun _ => rfl)
  ·have lY := List.length_pos_iff.2 nY
   simp only [show ((Y.length : Int) == 0) = false by simp; omega]
   refine Evl.succ ?_
   simp only [dr26_Skew.j0]
   simp only [show (false = true) = False by simp, if_false]
   by_cases tx : X.all timeB = true
   ·by_cases ty : Y.all timeB = true
    ·rw [if_pos ⟨sprd_ok.2 ⟨nX, tx⟩, sprd_ok.2 ⟨nY, ty⟩⟩, ← skew_max nX nY tx ty]
     exact skew_l0 h1 h2 tx ty X.length 0 0 (by omega)
    ·rw [if_neg (fun h => ty (sprd_ok.1 h.2).2)]
     exact bad_l0 h1 h2 nY X.length 0 0 (by omega) (Or.inr ⟨ty, lX⟩)
   ·rw [if_neg (fun h => tx (sprd_ok.1 h.1).2)]
    exact bad_l0 h1 h2 nY X.length 0 0 (by omega) (Or.inl tx)
end Go.Proofs.YtbefbhghmommhaaGreatDoor.MWo
set_option linter.unusedVariables false
set_option linter.unusedSimpArgs false
set_option maxRecDepth 100000
namespace Go.Proofs.YtbefbhghmommhaaGreatDoor.MWo
open Go.RowKit Go.Proofs.YtbefbhghmommhaaGreatDoorW.PrintWords Go.Proofs.YtbefbhghmommhaaGreatDoorW.PrintLast Go.Proofs.YtbefbhghmommhaaGreatDoorW.PrintMore Go.Proofs.YtbefbhghmommhaaGreatDoor.Evl
def smC (x : S37) : Bool := decide (x.f0.length ≤ 20) && (decide (x.f1.f2.length ≤ 20) && x.f0.all fun y => decide (y.f5.length ≤ 20))
def smallB (l : List S37) : Bool := decide (l.length ≤ 20) && l.all smC
theorem rd_c {l : List S37} {i : Nat} (h : i < l.length) : rd_T37 l (i : Int) = l[i] := by simp [rd_T37, h]
theorem rd_m {l : List S55} {i : Nat} (h : i < l.length) : rd_T55 l (i : Int) = l[i] := by simp [rd_T55, h]
theorem small_l1 {l : List S37} (hl : l.length ≤ 20) {i : Nat} (hi : i < l.length) (hn : (l[i]).f0.length ≤ 20) {R : Bool} (hR : Evl (fun k => dl28_small.l0 k l ((i + 1 : Nat) : Int)) R) :
  ∀ (d j : Nat), j + d = (l[i]).f0.length → Evl (fun k => dl28_small.l1 k l (i : Int) (j : Int)) (((l[i]).f0.drop j).all (fun y => decide (y.f5.length ≤ 20)) && R)
 | 0, j, h => by
  refine Evl.succ ?_
  simp only [dl28_small.l1]
  simp only [if_pos (show (0 : Int) ≤ (i : Int) by omega), if_pos (show (i : Int) < (l.length : Int) by omega), rd_c hi, if_neg (show ¬ ((j : Int) < ((l[i]).f0.length : Int)) by omega), List.drop_eq_nil_iff.2 (show (l[i]).f0.length ≤ j by omega), w64n (show i < 2000000 by omega)]
  simpa using hR
 | d + 1, j, h => by
  have hj : j < (l[i]).f0.length := by omega
  refine Evl.succ ?_
  simp only [dl28_small.l1]
  simp only [if_pos (show (0 : Int) ≤ (i : Int) by omega), if_pos (show (i : Int) < (l.length : Int) by omega), rd_c hi, if_pos (show ((j : Int) < ((l[i]).f0.length : Int)) by omega), if_pos (show (0 : Int) ≤ (j : Int) by omega), rd_m hj, w64n (show j < 2000000 by omega)]
  rw [List.drop_eq_getElem_cons hj, List.all_cons]
  by_cases e : (((l[i]).f0[j]).f5).length ≤ 20
  ·simp only [if_neg (show ¬ ((((((l[i]).f0[j]).f5).length : Nat) : Int) > 20) by omega)]
   rw [show decide ((((l[i]).f0[j]).f5).length ≤ 20) = true from decide_eq_true e, Bool.true_and]
   exact small_l1 hl hi hn hR d (j + 1) (by omega)
  ·simp only [if_pos (show ((((((l[i]).f0[j]).f5).length : Nat) : Int) > 20) by omega)]
   rw [show decide ((((l[i]).f0[j]).f5).length ≤ 20) = false from decide_eq_false e]
   exact Evl.now fun _ => rfl
theorem small_l0 {l : List S37} (hl : l.length ≤ 20) : ∀ (d i : Nat), i + d = l.length → Evl (fun k => dl28_small.l0 k l (i : Int)) ((l.drop i).all smC)
 | 0, i, h => by
  refine Evl.succ ?_
  simp only [dl28_small.l0]
  simp only [if_neg (show ¬ ((i : Int) < (l.length : Int)) by omega), List.drop_eq_nil_iff.2 (show l.length ≤ i by omega)]
  exact Evl.now fun _ => rfl
 | d + 1, i, h => by
  have hi : i < l.length := by omega
  refine Evl.succ ?_
  simp only [dl28_small.l0]
  simp only [if_pos (show (i : Int) < (l.length : Int) by omega), if_pos (show (0 : Int) ≤ (i : Int) by omega), rd_c hi]
  rw [List.drop_eq_getElem_cons hi, List.all_cons]
  have ih := small_l0 hl d (i + 1) (by omega)
  unfold smC
  by_cases e : (l[i]).f0.length ≤ 20
  ·simp only [if_neg (show ¬ ((((l[i]).f0.length : Nat) : Int) > 20) by omega)]
   rw [show decide ((l[i]).f0.length ≤ 20) = true from decide_eq_true e, Bool.true_and]
   refine Evl.succ ?_
   simp only [dl28_small.j1]
   by_cases e2 : (l[i]).f1.f2.length ≤ 20
   ·simp only [show decide (((((l[i]).f1.f2).length : Nat) : Int) > 20) = false from decide_eq_false (by omega)]
    rw [show decide ((l[i]).f1.f2.length ≤ 20) = true from decide_eq_true e2, Bool.true_and]
    have := small_l1 hl hi e (R := (l.drop (i + 1)).all smC) ih (l[i]).f0.length 0 (by omega)
    exact this
   ·simp only [show decide (((((l[i]).f1.f2).length : Nat) : Int) > 20) = true from decide_eq_true (by omega)]
    rw [show decide ((l[i]).f1.f2.length ≤ 20) = false from decide_eq_false e2]
    exact Evl.now fun _ => rfl
  ·simp only [if_pos (show ((((l[i]).f0.length : Nat) : Int) > 20) by omega)]
   rw [show decide ((l[i]).f0.length ≤ 20) = false from decide_eq_false e]
   exact Evl.succ (Evl.now fun _ => rfl)
theorem small_evl (l : List S37) : Evl (fun k => dl28_small.f k l) (smallB l) := by
 unfold dl28_small.f smallB
 by_cases h : l.length ≤ 20
 ·simp only [if_neg (show ¬ ((l.length : Int) > 20) by omega)]
  rw [show decide (l.length ≤ 20) = true from decide_eq_true h, Bool.true_and]
  exact small_l0 h l.length 0 (by omega)
 ·simp only [if_pos (show ((l.length : Int) > 20) by omega)]
  rw [show decide (l.length ≤ 20) = false from decide_eq_false h]
  exact Evl.now fun _ => rfl
end Go.Proofs.YtbefbhghmommhaaGreatDoor.MWo
namespace Go.Proofs.YtbefbhghmommhaaGreatDoor.MWo
open Go.RowKit Go.Proofs.YtbefbhghmommhaaGreatDoorW.PrintWords Go.Proofs.YtbefbhghmommhaaGreatDoorW.PrintLast Go.Proofs.YtbefbhghmommhaaGreatDoorW.PrintMore
attribute [local go_sem] mp_u32s mp_u32m mp_u8s mp_u8m max2_int min2_int max_two min_two max_three min_three max_four min_four
set_option linter.unusedVariables false
set_option linter.unusedSimpArgs false
def dr26_ports.l0 : Nat → Int → Int → Int → List (S68) → List (S71) → Int → Int → Int → Int → Int → Int → Int → Int → Int → Int → Int → Option (Int)
 | 0, _, _, _, _, _, _, _, _, _, _, _, _, _, _, _, _ => none
 | k + 1, x1, x5, x6, x277000, x277001, x277002, x277003, x277004, x277005, x277006, x277007, x277008, x277009, x277010, x277011, x277012 => if x6 < (x277001.length : Int) then (if 0 ≤ x6 then (if ((rd_T71 x277001 x6).f0) = x1 then (dr26_ports.l0 k x1 (wrap64 (x5 + 2)) (wrap64 (x6 + 1)) x277000 x277001 x277002 x277003 x277004 x277005 x277006 x277007 x277008 x277009 x277010 x277011 x277012) else (if ((rd_T71 x277001 x6).f1) = x1 then (dr26_ports.l0 k x1 (wrap64 (x5 + 2)) (wrap64 (x6 + 1)) x277000 x277001 x277002 x277003 x277004 x277005 x277006 x277007 x277008 x277009 x277010 x277011 x277012) else (dr26_ports.l0 k x1 x5 (wrap64 (x6 + 1)) x277000 x277001 x277002 x277003 x277004 x277005 x277006 x277007 x277008 x277009 x277010 x277011 x277012))) else (none)) else (some x5)
def dr26_ports.f (k : Nat) (l0_0 : List (S68)) (l0_1 : List (S71)) (a0_2 : Int) (a0_3 : Int) (a0_4 : Int) (a0_5 : Int) (a0_6 : Int) (a0_7 : Int) (a0_8 : Int) (a0_9 : Int) (a0_10 : Int) (a0_11 : Int) (a0_12 : Int) (a1 : Int) : Option (Int) := dr26_ports.l0 k a1 0 0 l0_0 l0_1 a0_2 a0_3 a0_4 a0_5 a0_6 a0_7 a0_8 a0_9 a0_10 a0_11 a0_12
theorem dr26_ports.mono_l : ∀ k, (∀ y0 y1 y2 y3 y4 y5 y6 y7 y8 y9 y10 y11 y12 y13 y14 y15, LeO (dr26_ports.l0 k y0 y1 y2 y3 y4 y5 y6 y7 y8 y9 y10 y11 y12 y13 y14 y15) (dr26_ports.l0 (k + 1) y0 y1 y2 y3 y4 y5 y6 y7 y8 y9 y10 y11 y12 y13 y14 y15))
 | 0 => fun _ _ _ _ _ _ _ _ _ _ _ _ _ _ _ _ r h => by simp [dr26_ports.l0] at h
 | k + 1 => by
  have ih0 := dr26_ports.mono_l k
  ·intro y0 y1 y2 y3 y4 y5 y6 y7 y8 y9 y10 y11 y12 y13 y14 y15
   unfold dr26_ports.l0
   repeat' first
   | (with_reducible exact ih0 _ _ _ _ _ _ _ _ _ _ _ _ _ _ _ _)
   | (with_reducible exact LeO.refl _)
   | (with_reducible exact LeO.none _)
   | (with_reducible refine LeO.ite ?_ ?_)
   | (with_reducible refine LeO.bind ?_ (fun _ => ?_))
   | exact ih0 _ _ _ _ _ _ _ _ _ _ _ _ _ _ _ _
   | exact LeO.none _
   | refine LeO.ite ?_ ?_
   | refine LeO.bind ?_ (fun _ => ?_)
theorem dr26_ports.mono : ∀ a0 a1 a2 a3 a4 a5 a6 a7 a8 a9 a10 a11 a12 a13 k, LeO (dr26_ports.f k a0 a1 a2 a3 a4 a5 a6 a7 a8 a9 a10 a11 a12 a13) (dr26_ports.f (k + 1) a0 a1 a2 a3 a4 a5 a6 a7 a8 a9 a10 a11 a12 a13) := by
 intro a0 a1 a2 a3 a4 a5 a6 a7 a8 a9 a10 a11 a12 a13 k
 have ih0 := dr26_ports.mono_l k
 unfold dr26_ports.f
 repeat' first
   | (with_reducible exact ih0 _ _ _ _ _ _ _ _ _ _ _ _ _ _ _ _)
   | (with_reducible exact LeO.refl _)
   | (with_reducible exact LeO.none _)
   | (with_reducible refine LeO.ite ?_ ?_)
   | (with_reducible refine LeO.bind ?_ (fun _ => ?_))
   | exact ih0 _ _ _ _ _ _ _ _ _ _ _ _ _ _ _ _
   | exact LeO.none _
   | refine LeO.ite ?_ ?_
   | refine LeO.bind ?_ (fun _ => ?_)
set_option maxHeartbeats 8000000 in
set_option maxRecDepth 100000 in
theorem dr26_ports.calls (k : Nat) (A0_0 : Option Addr) (c0_0 : Nat) (l0_0 : List (S68)) (A0_1 : Option Addr) (c0_1 : Nat) (l0_1 : List (S71)) (a0_2 : Int) (a0_3 : Int) (a0_4 : Int) (a0_5 : Int) (a0_6 : Int) (a0_7 : Int) (a0_8 : Int) (a0_9 : Int) (a0_10 : Int) (a0_11 : Int) (a0_12 : Int) (a1 : Int) (r : Int) (w : World) (hr0_0 : Kd.C k68 w A0_0 l0_0.length l0_0) (hc0_0 : l0_0.length ≤ c0_0) (hr0_1 : Kd.C k71 w A0_1 l0_1.length l0_1) (hc0_1 : l0_1.length ≤ c0_1) (h : dr26_ports.f k l0_0 l0_1 a0_2 a0_3 a0_4 a0_5 a0_6 a0_7 a0_8 a0_9 a0_10 a0_11 a0_12 a1 = some r) :
  Calls Tryz.prog 60 #[.agg #[.slice A0_0 l0_0.length c0_0, .slice A0_1 l0_1.length c0_1, .int .i64 a0_2, .int .i64 a0_3, .int .i64 a0_4, .int .i64 a0_5, .int .i64 a0_6, .int .i64 a0_7, .int .i64 a0_8, .int .i64 a0_9, .int .i64 a0_10, .int .i64 a0_11, .int .i64 a0_12], .int .i64 a1] w fun e w' => e = .returned (.int .i64 r) ∧ Below w.heap.size w w' := by
 have hu25 := Tryz.underlying25
 have HR0_0 := am hr0_0
 have HC0_0 := am hc0_0
 clear hr0_0 hc0_0
 have HR0_1 := am hr0_1
 have HC0_1 := am hc0_1
 clear hr0_1 hc0_1
 have HB := am (Below.refl w.heap.size w)
 have H : (dr26_ports.l0 k a1 0 0 l0_0 l0_1 a0_2 a0_3 a0_4 a0_5 a0_6 a0_7 a0_8 a0_9 a0_10 a0_11 a0_12) = some r := h
 clear h
 have H' := am H
 clear H
 go_enter Tryz.func60, Tryz.ntmps60
 go_wp2_with (first | ((with_reducible refine gate_dst (N := 2) rfl ?_); refine box_event ?hg (N := 2) ?hd (cs := #[.slice A0_0 l0_0.length c0_0, .slice A0_1 l0_1.length c0_1, .int .i64 a0_2, .int .i64 a0_3, .int .i64 a0_4, .int .i64 a0_5, .int .i64 a0_6, .int .i64 a0_7, .int .i64 a0_8, .int .i64 a0_9, .int .i64 a0_10, .int .i64 a0_11, .int .i64 a0_12]) (t := 25) ?hr ?_; (case hd => rfl); (case hg => rfl); (case hr => first | (go_simp; done) | (go_simp; rfl)); intro gb276 hg w3 hbox hb; have n0_ := am (below_step (by repeat (first | (with_reducible first | exact HB.out | apply below_alloc | apply pw_below_drewN | apply below_drew1) | exact HB.out)) hb); have n1_ := am (hbox); have n2_ := am ((by rw [hg]; exact (below_size (by repeat (first | (with_reducible first | exact HB.out | apply below_alloc | apply pw_below_drewN | apply below_drew1) | exact HB.out))) : w.heap.size ≤ gb276)); have n3_ := am ((by rw [hg]; exact (below_size (by repeat (first | (with_reducible first | exact HB.out | apply below_alloc | apply pw_below_drewN | apply below_drew1) | exact HB.out))) : w.heap.size ≤ gb276)); clear HB; have HB := n0_; have BK276 := n1_; have GW276 := n2_; have GE276 := n3_; clear n0_ n1_ n2_ n3_; clear hb hbox hg))
 go_loopg [5, 6] k (fun kq v5 v6 w' => ∃ (x5_1 : Int) (x6_1 : Int), v5 = .int .i64 x5_1 ∧ v6 = .int .i64 x6_1 ∧ Aside0 (dr26_ports.l0 kq a1 x5_1 x6_1 l0_0 l0_1 a0_2 a0_3 a0_4 a0_5 a0_6 a0_7 a0_8 a0_9 a0_10 a0_11 a0_12 = some r) ∧ Aside0 (kq ≤ k) ∧ Aside0 (w'.heap[gb276]? = some (.cells #[(.slice A0_0 l0_0.length c0_0), (.slice A0_1 l0_1.length c0_1), .int .i64 a0_2, .int .i64 a0_3, .int .i64 a0_4, .int .i64 a0_5, .int .i64 a0_6, .int .i64 a0_7, .int .i64 a0_8, .int .i64 a0_9, .int .i64 a0_10, .int .i64 a0_11, .int .i64 a0_12] 25 (0, 0))) ∧ Aside0 (Below w.heap.size w w'))
 case atStart => exact ⟨(0), (0), (by first | rfl | (simp; done) | (simp [*]; done) | (have := TNA.out; unfold wrap64; congr 1; omega) | (unfold wrap64; omega)), (by first | rfl | (simp; done) | (simp [*]; done) | (have := TNA.out; unfold wrap64; congr 1; omega) | (unfold wrap64; omega)), H', ⟨Nat.le_refl _⟩, ⟨by (with_reducible repeat (first | refine blk_drewN ?_ _ | refine blk_drew ?_ | refine blk_alloc ?_ _)); exact BK276.out⟩, ⟨by repeat (first | (with_reducible first | exact HB.out | apply below_alloc | apply pw_below_drewN | apply below_drew1 | refine below_set ?_ GE276.out) | exact HB.out)⟩⟩
 case round =>
  clear H'
  try clear p2
  obtain ⟨x5_1, x6_1, rfl, rfl, HA, HK1, BK276, HB⟩ := hrel
  cases gk with
  | zero => exact absurd HA.out (by simp [dr26_ports.l0])
  | succ k1 =>
   have H := HA.out
   clear HA
   simp only [dr26_ports.l0] at H
   by_cases c4 : x6_1 < (l0_1.length : Int)
   ·rw [if_pos c4] at H
    have c4b0 : decide (x6_1 < (l0_1.length : Int)) = true := decide_eq_true c4
    clear c4
    by_cases c5 : 0 ≤ x6_1
    ·rw [if_pos c5] at H
     have c5b0 : decide (0 ≤ x6_1) = true := decide_eq_true c5
     clear c5
     by_cases c6 : ((rd_T71 l0_1 x6_1).f0) = a1
     ·rw [if_pos c6] at H
      have c6b0 : (((rd_T71 l0_1 x6_1).f0) == a1) = true := beq_iff_eq.mpr c6
      have c6b1 : (((rd_T71 l0_1 x6_1).f0) != a1) = false := bne_eq_false_iff_eq.mpr c6
      clear c6
      have H' := am H
      clear H
      obtain ⟨hcz7_0, hcz7_1, hcz7_2, hcz7_3, hcz7_4, hcz7_5, hcz7_6, hcz7_7, hcz7_8, hcz7_9, hcz7_10, hcz7_11, hcz7_12⟩ := cellsK13 BK276.out
      obtain ⟨hfz7_0, hfz7_1, hfz7_2, hfz7_3, hfz7_4, hfz7_5, hfz7_6, hfz7_7, hfz7_8, hfz7_9, hfz7_10, hfz7_11, hfz7_12⟩ := frozK13 BK276.out
      have p277 : 0 ≤ (x6_1 : Int) := of_decide_eq_true (by first | (with_reducible assumption) | assumption)
      have q277 : x6_1 < (l0_1.length : Int) := of_decide_eq_true (by first | (with_reducible assumption) | assumption)
      obtain ⟨ad277, e277, hx277_0, hx277_1, hx277_2, hx277_3, hx277_4, hx277_5⟩ := at_T71 HR0_1.out x6_1 p277 q277
      cases e277
      replace hx277_0 := (HB.out.cell (World.block_lt_of_cell? w _ hx277_0)).trans hx277_0
      replace hx277_1 := (HB.out.cell (World.block_lt_of_cell? w _ hx277_1)).trans hx277_1
      replace hx277_2 := (HB.out.cell (World.block_lt_of_cell? w _ hx277_2)).trans hx277_2
      replace hx277_3 := (HB.out.cell (World.block_lt_of_cell? w _ hx277_3)).trans hx277_3
      replace hx277_4 := (HB.out.cell (World.block_lt_of_cell? w _ hx277_4)).trans hx277_4
      replace hx277_5 := (HB.out.cell (World.block_lt_of_cell? w _ hx277_5)).trans hx277_5
      replace p277 := eq_true p277
      replace q277 := eq_true q277
      go_wp2
      go_roundg k1
      case measure => have := HK1.out; omega
      case rel => exact ⟨(wrap64 (x5_1 + 2)), (wrap64 (x6_1 + 1)), (by first | rfl | (simp; done) | (simp [*]; done) | (have := TNA.out; unfold wrap64; congr 1; omega) | (unfold wrap64; omega)), (by first | rfl | (simp; done) | (simp [*]; done) | (have := TNA.out; unfold wrap64; congr 1; omega) | (unfold wrap64; omega)), H', ⟨by have := HK1.out; omega⟩, ⟨by (with_reducible repeat (first | refine blk_drewN ?_ _ | refine blk_drew ?_ | refine blk_alloc ?_ _)); exact BK276.out⟩, ⟨by repeat (first | (with_reducible first | exact HB.out | apply below_alloc | apply pw_below_drewN | apply below_drew1 | refine below_set ?_ GE276.out) | exact HB.out)⟩⟩
     ·rw [if_neg c6] at H
      have c6b0 : (((rd_T71 l0_1 x6_1).f0) == a1) = false := beq_eq_false_iff_ne.mpr c6
      have c6b1 : (((rd_T71 l0_1 x6_1).f0) != a1) = true := bne_iff_ne.mpr c6
      by_cases c8 : ((rd_T71 l0_1 x6_1).f1) = a1
      ·rw [if_pos c8] at H
       have c8b0 : (((rd_T71 l0_1 x6_1).f1) == a1) = true := beq_iff_eq.mpr c8
       have c8b1 : (((rd_T71 l0_1 x6_1).f1) != a1) = false := bne_eq_false_iff_eq.mpr c8
       clear c8
       have H' := am H
       clear H
       obtain ⟨hcz9_0, hcz9_1, hcz9_2, hcz9_3, hcz9_4, hcz9_5, hcz9_6, hcz9_7, hcz9_8, hcz9_9, hcz9_10, hcz9_11, hcz9_12⟩ := cellsK13 BK276.out
       obtain ⟨hfz9_0, hfz9_1, hfz9_2, hfz9_3, hfz9_4, hfz9_5, hfz9_6, hfz9_7, hfz9_8, hfz9_9, hfz9_10, hfz9_11, hfz9_12⟩ := frozK13 BK276.out
       have p277 : 0 ≤ (x6_1 : Int) := of_decide_eq_true (by first | (with_reducible assumption) | assumption)
       have q277 : x6_1 < (l0_1.length : Int) := of_decide_eq_true (by first | (with_reducible assumption) | assumption)
       obtain ⟨ad277, e277, hx277_0, hx277_1, hx277_2, hx277_3, hx277_4, hx277_5⟩ := at_T71 HR0_1.out x6_1 p277 q277
       cases e277
       replace hx277_0 := (HB.out.cell (World.block_lt_of_cell? w _ hx277_0)).trans hx277_0
       replace hx277_1 := (HB.out.cell (World.block_lt_of_cell? w _ hx277_1)).trans hx277_1
       replace hx277_2 := (HB.out.cell (World.block_lt_of_cell? w _ hx277_2)).trans hx277_2
       replace hx277_3 := (HB.out.cell (World.block_lt_of_cell? w _ hx277_3)).trans hx277_3
       replace hx277_4 := (HB.out.cell (World.block_lt_of_cell? w _ hx277_4)).trans hx277_4
       replace hx277_5 := (HB.out.cell (World.block_lt_of_cell? w _ hx277_5)).trans hx277_5
       replace p277 := eq_true p277
       replace q277 := eq_true q277
       have p278 : 0 ≤ (x6_1 : Int) := of_decide_eq_true (by first | (with_reducible assumption) | assumption)
       have q278 : x6_1 < (l0_1.length : Int) := of_decide_eq_true (by first | (with_reducible assumption) | assumption)
       obtain ⟨ad278, e278, hx278_0, hx278_1, hx278_2, hx278_3, hx278_4, hx278_5⟩ := at_T71 HR0_1.out x6_1 p278 q278
       obtain rfl : ad277 = ad278 := (by injection e278)
       replace hx278_0 := (HB.out.cell (World.block_lt_of_cell? w _ hx278_0)).trans hx278_0
       replace hx278_1 := (HB.out.cell (World.block_lt_of_cell? w _ hx278_1)).trans hx278_1
       replace hx278_2 := (HB.out.cell (World.block_lt_of_cell? w _ hx278_2)).trans hx278_2
       replace hx278_3 := (HB.out.cell (World.block_lt_of_cell? w _ hx278_3)).trans hx278_3
       replace hx278_4 := (HB.out.cell (World.block_lt_of_cell? w _ hx278_4)).trans hx278_4
       replace hx278_5 := (HB.out.cell (World.block_lt_of_cell? w _ hx278_5)).trans hx278_5
       replace p278 := eq_true p278
       replace q278 := eq_true q278
       go_wp2
       go_roundg k1
       case measure => have := HK1.out; omega
       case rel => exact ⟨(wrap64 (x5_1 + 2)), (wrap64 (x6_1 + 1)), (by first | rfl | (simp; done) | (simp [*]; done) | (have := TNA.out; unfold wrap64; congr 1; omega) | (unfold wrap64; omega)), (by first | rfl | (simp; done) | (simp [*]; done) | (have := TNA.out; unfold wrap64; congr 1; omega) | (unfold wrap64; omega)), H', ⟨by have := HK1.out; omega⟩, ⟨by (with_reducible repeat (first | refine blk_drewN ?_ _ | refine blk_drew ?_ | refine blk_alloc ?_ _)); exact BK276.out⟩, ⟨by repeat (first | (with_reducible first | exact HB.out | apply below_alloc | apply pw_below_drewN | apply below_drew1 | refine below_set ?_ GE276.out) | exact HB.out)⟩⟩
      ·rw [if_neg c8] at H
       have c8b0 : (((rd_T71 l0_1 x6_1).f1) == a1) = false := beq_eq_false_iff_ne.mpr c8
       have c8b1 : (((rd_T71 l0_1 x6_1).f1) != a1) = true := bne_iff_ne.mpr c8
       have H' := am H
       clear H
       obtain ⟨hcz10_0, hcz10_1, hcz10_2, hcz10_3, hcz10_4, hcz10_5, hcz10_6, hcz10_7, hcz10_8, hcz10_9, hcz10_10, hcz10_11, hcz10_12⟩ := cellsK13 BK276.out
       obtain ⟨hfz10_0, hfz10_1, hfz10_2, hfz10_3, hfz10_4, hfz10_5, hfz10_6, hfz10_7, hfz10_8, hfz10_9, hfz10_10, hfz10_11, hfz10_12⟩ := frozK13 BK276.out
       have p277 : 0 ≤ (x6_1 : Int) := of_decide_eq_true (by first | (with_reducible assumption) | assumption)
       have q277 : x6_1 < (l0_1.length : Int) := of_decide_eq_true (by first | (with_reducible assumption) | assumption)
       obtain ⟨ad277, e277, hx277_0, hx277_1, hx277_2, hx277_3, hx277_4, hx277_5⟩ := at_T71 HR0_1.out x6_1 p277 q277
       cases e277
       replace hx277_0 := (HB.out.cell (World.block_lt_of_cell? w _ hx277_0)).trans hx277_0
       replace hx277_1 := (HB.out.cell (World.block_lt_of_cell? w _ hx277_1)).trans hx277_1
       replace hx277_2 := (HB.out.cell (World.block_lt_of_cell? w _ hx277_2)).trans hx277_2
       replace hx277_3 := (HB.out.cell (World.block_lt_of_cell? w _ hx277_3)).trans hx277_3
       replace hx277_4 := (HB.out.cell (World.block_lt_of_cell? w _ hx277_4)).trans hx277_4
       replace hx277_5 := (HB.out.cell (World.block_lt_of_cell? w _ hx277_5)).trans hx277_5
       replace p277 := eq_true p277
       replace q277 := eq_true q277
       have p278 : 0 ≤ (x6_1 : Int) := of_decide_eq_true (by first | (with_reducible assumption) | assumption)
       have q278 : x6_1 < (l0_1.length : Int) := of_decide_eq_true (by first | (with_reducible assumption) | assumption)
       obtain ⟨ad278, e278, hx278_0, hx278_1, hx278_2, hx278_3, hx278_4, hx278_5⟩ := at_T71 HR0_1.out x6_1 p278 q278
       obtain rfl : ad277 = ad278 := (by injection e278)
       replace hx278_0 := (HB.out.cell (World.block_lt_of_cell? w _ hx278_0)).trans hx278_0
       replace hx278_1 := (HB.out.cell (World.block_lt_of_cell? w _ hx278_1)).trans hx278_1
       replace hx278_2 := (HB.out.cell (World.block_lt_of_cell? w _ hx278_2)).trans hx278_2
       replace hx278_3 := (HB.out.cell (World.block_lt_of_cell? w _ hx278_3)).trans hx278_3
       replace hx278_4 := (HB.out.cell (World.block_lt_of_cell? w _ hx278_4)).trans hx278_4
       replace hx278_5 := (HB.out.cell (World.block_lt_of_cell? w _ hx278_5)).trans hx278_5
       replace p278 := eq_true p278
       replace q278 := eq_true q278
       go_wp2
       go_roundg k1
       case measure => have := HK1.out; omega
       case rel => exact ⟨(x5_1), (wrap64 (x6_1 + 1)), (by first | rfl | (simp; done) | (simp [*]; done) | (have := TNA.out; unfold wrap64; congr 1; omega) | (unfold wrap64; omega)), (by first | rfl | (simp; done) | (simp [*]; done) | (have := TNA.out; unfold wrap64; congr 1; omega) | (unfold wrap64; omega)), H', ⟨by have := HK1.out; omega⟩, ⟨by (with_reducible repeat (first | refine blk_drewN ?_ _ | refine blk_drew ?_ | refine blk_alloc ?_ _)); exact BK276.out⟩, ⟨by repeat (first | (with_reducible first | exact HB.out | apply below_alloc | apply pw_below_drewN | apply below_drew1 | refine below_set ?_ GE276.out) | exact HB.out)⟩⟩
    ·rw [if_neg c5] at H
     exact absurd H (by simp)
   ·rw [if_neg c4] at H
    have c4b0 : decide (x6_1 < (l0_1.length : Int)) = false := decide_eq_false c4
    clear c4
    obtain rfl := Option.some.inj H
    obtain ⟨hcz11_0, hcz11_1, hcz11_2, hcz11_3, hcz11_4, hcz11_5, hcz11_6, hcz11_7, hcz11_8, hcz11_9, hcz11_10, hcz11_11, hcz11_12⟩ := cellsK13 BK276.out
    obtain ⟨hfz11_0, hfz11_1, hfz11_2, hfz11_3, hfz11_4, hfz11_5, hfz11_6, hfz11_7, hfz11_8, hfz11_9, hfz11_10, hfz11_11, hfz11_12⟩ := frozK13 BK276.out
    go_wp2
    go_ret
    exact ⟨by first | rfl | (simp [errW_none, errW_some] <;> rfl) | (simp [*, errW_none, errW_some] <;> rfl), by repeat (first | (with_reducible first | exact HB.out | apply below_alloc | apply pw_below_drewN | apply below_drew1 | refine below_set ?_ GE276.out) | exact HB.out)⟩
def dr5_is.f (a0 : Int) (a1 : Int) : Option (Bool) := if a0 ≥ 0 then (some (decide (a0 < a1))) else (some false)
set_option maxHeartbeats 8000000 in
set_option maxRecDepth 100000 in
theorem dr5_is.calls (a0 : Int) (a1 : Int) (r : Bool) (w : World) (h : dr5_is.f a0 a1 = some r) :
  Calls Tryz.prog 63 #[.int .i64 a0, .int .i64 a1] w fun e w' => e = .returned (.bool r) ∧ Drawn0 w w' := by
 have H : (if a0 ≥ 0 then (some (decide (a0 < a1))) else (some false)) = some r := h
 clear h
 by_cases c3 : a0 ≥ 0
 ·rw [if_pos c3] at H
  have c3b0 : decide (0 ≤ a0) = true := decide_eq_true c3
  clear c3
  obtain rfl := Option.some.inj H
  go_enter Tryz.func63, Tryz.ntmps63
  go_wp2
  go_ret
  exact ⟨by first | rfl | (simp; done) | (simp [*]; done), by repeat (first | exact Drawn0.refl _ | apply Drawn0.step)⟩
 ·rw [if_neg c3] at H
  have c3b0 : decide (0 ≤ a0) = false := decide_eq_false c3
  clear c3
  obtain rfl := Option.some.inj H
  go_enter Tryz.func63, Tryz.ntmps63
  go_wp2
  go_ret
  exact ⟨by first | rfl | (simp; done) | (simp [*]; done), by repeat (first | exact Drawn0.refl _ | apply Drawn0.step)⟩
def bits_Mul64.f (a0 : Int) (a1 : Int) : Option (Int × Int) := some (IntKind.u64.wrap ((IntKind.u64.wrap ((IntKind.u64.wrap ((a0 / 4294967296) * (a1 / 4294967296))) + ((IntKind.u64.wrap ((IntKind.u64.wrap ((a0 / 4294967296) * (Go.bits .and .u64 a1 4294967295))) + ((IntKind.u64.wrap ((Go.bits .and .u64 a0 4294967295) * (Go.bits .and .u64 a1 4294967295))) / 4294967296))) / 4294967296))) + ((IntKind.u64.wrap ((Go.bits .and .u64 (IntKind.u64.wrap ((IntKind.u64.wrap ((a0 / 4294967296) * (Go.bits .and .u64 a1 4294967295))) + ((IntKind.u64.wrap ((Go.bits .and .u64 a0 4294967295) * (Go.bits .and .u64 a1 4294967295))) / 4294967296))) 4294967295) + (IntKind.u64.wrap ((Go.bits .and .u64 a0 4294967295) * (a1 / 4294967296))))) / 4294967296)), IntKind.u64.wrap (a0 * a1))
set_option maxHeartbeats 8000000 in
set_option maxRecDepth 100000 in
theorem bits_Mul64.calls (a0 : Int) (a1 : Int) (r1 : Int) (r2 : Int) (w : World) (h : bits_Mul64.f a0 a1 = some (r1, r2)) :
  Calls Tryz.prog 118 #[.int .u64 a0, .int .u64 a1] w fun e w' => e = .returned (.tuple #[.int .u64 r1, .int .u64 r2]) ∧ Drawn0 w w' := by
 have H : (some (IntKind.u64.wrap ((IntKind.u64.wrap ((IntKind.u64.wrap ((a0 / 4294967296) * (a1 / 4294967296))) + ((IntKind.u64.wrap ((IntKind.u64.wrap ((a0 / 4294967296) * (Go.bits .and .u64 a1 4294967295))) + ((IntKind.u64.wrap ((Go.bits .and .u64 a0 4294967295) * (Go.bits .and .u64 a1 4294967295))) / 4294967296))) / 4294967296))) + ((IntKind.u64.wrap ((Go.bits .and .u64 (IntKind.u64.wrap ((IntKind.u64.wrap ((a0 / 4294967296) * (Go.bits .and .u64 a1 4294967295))) + ((IntKind.u64.wrap ((Go.bits .and .u64 a0 4294967295) * (Go.bits .and .u64 a1 4294967295))) / 4294967296))) 4294967295) + (IntKind.u64.wrap ((Go.bits .and .u64 a0 4294967295) * (a1 / 4294967296))))) / 4294967296)), IntKind.u64.wrap (a0 * a1))) = some (r1, r2) := h
 clear h
 simp only [Option.some.injEq, Prod.mk.injEq] at H
 obtain ⟨rfl, rfl⟩ := H
 go_enter Tryz.func118, Tryz.ntmps118
 go_wp2
 go_ret2
 exact ⟨by first | rfl | (simp; done) | (simp [*]; done), by repeat (first | exact Drawn0.refl _ | apply Drawn0.step)⟩
def bits_Mul.f (a0 : Int) (a1 : Int) : Option (Int × Int) := (bits_Mul64.f a0 a1).bind fun bt112 => (some (bt112.1, bt112.2))
set_option maxHeartbeats 8000000 in
set_option maxRecDepth 100000 in
theorem bits_Mul.calls (a0 : Int) (a1 : Int) (r1 : Int) (r2 : Int) (w : World) (h : bits_Mul.f a0 a1 = some (r1, r2)) :
  Calls Tryz.prog 115 #[.int .u64 a0, .int .u64 a1] w fun e w' => e = .returned (.tuple #[.int .u64 r1, .int .u64 r2]) ∧ Drawn0 w w' := by
 have H : ((bits_Mul64.f a0 a1).bind fun bt112 => (some (bt112.1, bt112.2))) = some (r1, r2) := h
 clear h
 replace H := Option.bind_eq_some_iff.mp H
 obtain ⟨⟨t112, t113⟩, A30, H⟩ := H
 replace H : (some (t112, t113)) = some (r1, r2) := H
 have A3 := am A30
 clear A30
 simp only [Option.some.injEq, Prod.mk.injEq] at H
 obtain ⟨rfl, rfl⟩ := H
 go_enter Tryz.func115, Tryz.ntmps115
 go_wp2_with (first | ((with_reducible refine gate_callee (f := 118) rfl ?_); refine goesL_ (some 25) rfl rfl Tryz.func118 (by kernel_rfl) rfl #[.int .u64 a0, .int .u64 a1] rfl (by (try simp only [List.map_toArray, List.map_cons, List.map_nil]); first | done | rfl | (simp only [List.length_drop, List.length_take]; rfl)) ?_; (with_reducible refine (bits_Mul64.calls a0 a1 t112 t113 _ A3.out).mono ?_); rintro e w' ⟨rfl, ⟨nd, rfl⟩⟩; refine ⟨_, rfl, ?_⟩))
 go_ret2
 exact ⟨by first | rfl | (simp; done) | (simp [*]; done), by repeat (first | exact Drawn0.refl _ | apply Drawn0.step)⟩
end Go.Proofs.YtbefbhghmommhaaGreatDoor.MWo
set_option linter.unusedVariables false
set_option linter.unusedSimpArgs false
namespace Go.Proofs.YtbefbhghmommhaaGreatDoor.MWo
open Go.RowKit Go.Proofs.YtbefbhghmommhaaGreatDoorW.PrintWords Go.Proofs.YtbefbhghmommhaaGreatDoorW.PrintLast Go.Proofs.YtbefbhghmommhaaGreatDoorW.PrintMore
theorem mul_one_ {n : Int} (h1 : 1 ≤ n) (h6 : n ≤ 6) : bits_Mul.f 1 n = some (0, n) := by
 rcases (show n = 1 ∨ n = 2 ∨ n = 3 ∨ n = 4 ∨ n = 5 ∨ n = 6 from by omega) with rfl | rfl | rfl | rfl | rfl | rfl <;> kernel_rfl
theorem blk_sets {t : Nat} {g : Nat} : ∀ (vs : List Value) (o : Nat) (w : World) (cur : Array Value), w.heap[g]? = some (.cells cur t (0, 0)) → o + vs.length ≤ cur.size →
  ∃ cur', (w.setCells g o vs).heap[g]? = some (.cells cur' t (0, 0)) ∧ cur'.size = cur.size ∧ (∀ j, j < o → cur'[j]? = cur[j]?) ∧ (∀ j v, vs[j]? = some v → cur'[o + j]? = some v)
 | [], o, w, cur, h, hl => ⟨cur, h, rfl, fun _ _ => rfl, fun j v hj => by simp at hj⟩
 | x :: vs, o, w, cur, h, hl => by
  simp only [List.length_cons] at hl
  have h1 := blk_set h o x
  obtain ⟨cur', h2, h3, h4, h5⟩ := blk_sets vs (o + 1) (w.setCell ⟨g, o, none⟩ x) _ h1 (by simp; omega)
  refine ⟨cur', h2, by rw [h3]; simp, fun j hj => ?_, fun j v hj => ?_⟩
  ·rw [h4 j (by omega)]
   simp [Array.getElem?_setIfInBounds, show ¬ o = j by omega]
  ·cases j with
   | zero =>
    simp at hj
    rw [Nat.add_zero, h4 o (by omega), ← hj]
    simp [Array.getElem?_setIfInBounds, show o < cur.size by omega]
   | succ j =>
    have := h5 j v (by simpa using hj)
    rw [show o + (j + 1) = o + 1 + j by omega]
    exact this
theorem below_sets {B g : Nat} {w0 : World} : ∀ (vs : List Value) (o : Nat) (w : World), Below B w0 w → B ≤ g → Below B w0 (w.setCells g o vs)
 | [], _, _, h, _ => h
 | v :: r, o, w, h, hb => below_sets r (o + 1) _ (h.setCell hb v) hb
def Part (W : World) (B n k : Nat) (v : Int) : Prop := ∃ cur, W.heap[B]? = some (.cells cur 3 (0, 0)) ∧ cur.size = n ∧ ∀ j, j < k → cur[j]? = some (.int .i64 v)
theorem Part.more {W : World} {B n k m : Nat} {v : Int} (h : Part W B n k v) (hm : k + m ≤ n) : Part (W.setCells B k (List.replicate m (.int .i64 v))) B n (k + m) v := by
 obtain ⟨cur, h1, h2, h3⟩ := h
 obtain ⟨cur', g1, g2, g3, g4⟩ := blk_sets (List.replicate m (.int .i64 v)) k W cur h1 (by rw [List.length_replicate, h2]; exact hm)
 refine ⟨cur', g1, by rw [g2, h2], fun j hj => ?_⟩
 by_cases c : j < k
 ·rw [g3 j c, h3 j c]
 ·have := g4 (j - k) (.int .i64 v) (by rw [List.getElem?_replicate, if_pos (by omega)])
  rw [show k + (j - k) = j by omega] at this
  exact this
theorem Part.row {W : World} {B n : Nat} {v : Int} (h : Part W B n n v) (base : Nat) (hb : base ≤ B) (hn : n ≤ 1000) : Kd.R (Kd.int .i64) 3 W base (fun _ => True) (.slice (some ⟨B, 0, none⟩) n n) (List.replicate n v) := by
 obtain ⟨cur, h1, h2, h3⟩ := h
 refine Kd.R_of_own ?_ (fun _ _ => trivial)
 rw [List.length_replicate]
 refine ⟨by simp [encs], .inr ⟨B, n, cur, rfl, hb, h1, Nat.le_refl _, by unfold maxLen; omega, by rw [h2, Nat.mul_one], ?_⟩⟩
 apply List.ext_getElem?
 intro j
 by_cases hj : j < n
 ·rw [List.getElem?_take, if_pos (by omega), Array.getElem?_toList, h3 j hj]
  simp [encs, hj]
 ·rw [List.getElem?_take, if_neg (by omega)]
  symm
  rw [List.getElem?_eq_none_iff]
  simp [encs]
  omega
theorem Part.copy {W : World} {B n k : Nat} {v : Int} (h : Part W B n k v) (hk : k ≤ n) (c1 c2 : Nat) : (Builtin.copy_ #[33, 33] 3 #[.slice (some ⟨B, k, none⟩) (n - k) c1, .slice (some ⟨B, 0, none⟩) k c2]).run Tryz.prog W = .ok (goInt (Nat.min k (n - k))) (W.setCells B k (List.replicate (Nat.min k (n - k)) (.int .i64 v))) := by
 obtain ⟨cur, h1, h2, h3⟩ := h
 have hm1 : Nat.min k (n - k) ≤ k := Nat.min_le_left _ _
 have hm2 : Nat.min k (n - k) ≤ n - k := Nat.min_le_right _ _
 have := run_copy_cells (P := Tryz.prog) W 33 33 3 3 B k (n - k) c1 ⟨B, 0, none⟩ k c2 (List.replicate (Nat.min k (n - k)) (.int .i64 v)) Tryz.underlying33 (by kernel_rfl) (by rw [List.length_replicate])
  (fun j u hj => by
   rw [List.getElem?_replicate] at hj
   split at hj
   ·rename_i hlt
    injection hj with hj
    subst hj
    have e : (⟨B, 0, none⟩ : Addr).add j = ⟨B, j, none⟩ := by simp [Addr.add]; intro h; omega
    rw [e]
    exact (blk_cell h1 j).trans (h3 j (by omega))
   ·cases hj)
  (fun j hj => by
   rw [List.length_replicate] at hj
   rw [blk_cell h1]
   rw [Array.getElem?_eq_getElem (by omega)]
   rfl)
  (fun j hj => blk_frozen h1 _)
  (fun u hu => by rw [List.eq_of_mem_replicate hu]; rfl)
 rw [List.length_replicate] at this
 exact this
set_option maxHeartbeats 4000000 in
set_option maxRecDepth 4000 in
theorem repeat_walk (A0 : Option Addr) (c0 : Nat) (v : Int) (n : Nat) (w : World) (hr : Kd.C (Kd.int .i64) w A0 1 [v]) (h1 : 1 ≤ n) (h6 : n ≤ 6) :
  Calls Tryz.prog 109 #[.slice A0 1 c0, .int .i64 n] w fun e w' => ∃ u, e = .returned u ∧ Kd.R (Kd.int .i64) 3 w' w.heap.size (fun _ => True) u (List.replicate n v) ∧ Below w.heap.size w w' := by
 have HM := am (mul_one_ (n := (n : Int)) (by omega) (by omega))
 have hd0 : decide ((n : Int) < 0) = false := decide_eq_false (by omega)
 have hd1 : decide ((9223372036854775807 : Int) < (n : Int)) = false := decide_eq_false (by omega)
 have hm1 : (n : Int) % 18446744073709551616 = n := by omega
 have hm2 : wrap64 (n : Int) = n := by unfold wrap64; omega
 obtain ⟨ad, e, x0⟩ := Kd.at_int hr 0 (by omega) (by omega)
 cases e
 have HX := am x0
 have H1 := am h1
 have H6 := am h6
 clear hr x0 h1 h6
 go_enter Tryz.func109, Tryz.ntmps109
 go_wp2_with fail
 refine (bits_Mul.calls 1 (n : Int) 0 n _ HM.out).mono ?_
 rintro e w1 ⟨rfl, hD⟩
 have HB := am hD.below
 have hx1 : w1.cell? ad = some (.int .i64 v) := (hD.below.cell (p := ad) (block_lt_of_cell HX.out)).trans HX.out
 clear hD
 obtain ⟨i0, hi, hz⟩ := Option.map_eq_some_iff.1 info3
 simp only [Prod.mk.injEq] at hz
 have hmk := run_make (P := Tryz.prog) w1 33 3 i0 (.int .i64 0) Tryz.underlying33 hi hz.1 .i64 .i64 n n (by omega) (Int.le_refl _) (by rw [hz.2.2]; have := H6.out; omega) (by have := H6.out; omega)
 rw [hz.2.1, Nat.mul_one, Int.toNat_natCast] at hmk
 have hP0 : Part (w1.alloc (.cells (madeCells (Value.int IntKind.i64 0).cells n) 3)) w1.heap.size n 0 v := ⟨_, heap_alloc_new _ _, size_madeCells _ _, fun j hj => absurd hj (by omega)⟩
 have HB2 := am (below_alloc HB.out (Obj.cells (madeCells (Value.int IntKind.i64 0).cells n) 3))
 have hx2 : (w1.alloc (.cells (madeCells (Value.int IntKind.i64 0).cells n) 3)).cell? ad = some (.int .i64 v) := ((below_alloc (Below.refl w1.heap.size w1) _).cell (p := ad) (block_lt_of_cell hx1)).trans hx1
 generalize w1.alloc (.cells (madeCells (Value.int IntKind.i64 0).cells n) 3) = w2 at *
 have HBb := am HB.out.size
 generalize w1.heap.size = B at *
 have hcp : (Builtin.copy_ #[33, 33] 3 #[.slice (some ⟨B, 0, none⟩) n n, .slice (some ad) 1 c0]).run Tryz.prog w2 = .ok (goInt 1) (w2.setCells B 0 [.int .i64 v]) := by
  obtain ⟨cur, g1, g2, _⟩ := hP0
  refine run_copy_cells (P := Tryz.prog) w2 33 33 3 3 B 0 n n ad 1 c0 [.int .i64 v] Tryz.underlying33 (by kernel_rfl) (by show 1 = min 1 n; have := H1.out; omega) (fun j u hj => ?_) (fun j hj => ?_) (fun j hj => blk_frozen g1 _) (fun u hu => by rw [List.mem_singleton.1 hu]; rfl)
  ·match j, hj with
   | 0, hj => simp at hj; rw [← hj]; exact hx2
   | j + 1, hj => simp at hj
  ·have hj0 : j = 0 := by simpa using hj
   subst hj0
   rw [blk_cell g1, Array.getElem?_eq_getElem (by have := H1.out; omega)]
   rfl
 have hP1 := am (hP0.more (m := 1) (by have := H1.out; omega))
 have HB3 := am (below_sets [.int .i64 v] 0 w2 HB2.out HBb.out)
 have hsz : i0.size = 1 := hz.2.1
 have HCF := am (fun (k : Nat) (h0 : k < n) => cut_from (P := Tryz.prog) 33 3 .i64 Tryz.underlying33 hi 1 hsz (some ⟨B, 0, none⟩) n n (k : Int) (by omega) (by omega))
 have HCT := am (fun (k : Nat) (h0 : k ≤ n) => cut_to (P := Tryz.prog) 33 3 .i64 Tryz.underlying33 hi (some ⟨B, 0, none⟩) n n (k : Int) (by omega) (by omega) (Nat.le_refl _))
 clear hP0 hx1 hx2 hi hz
 go_wp2_with fail
 clear hcp hmk hm1 hm2 hd0 hd1 HX
 go_loopg [8] n (fun kq v8 w' => ∃ k : Nat, v8 = .int .i64 k ∧ Aside0 (n ≤ kq + k) ∧ Aside0 (1 ≤ k ∧ k ≤ n) ∧ Aside0 (Below w.heap.size w w') ∧ Aside0 (Part w' B n k v))
 case atStart => exact ⟨1, rfl, ⟨by omega⟩, ⟨by have := H1.out; omega⟩, HB3, hP1⟩
 case round =>
  clear HB3 hP1
  obtain ⟨k, rfl, HK, HKn, HBr, hPr⟩ := hrel
  by_cases hk : k < n
  ·have hlt : decide ((k : Int) < (n : Int)) = true := decide_eq_true (by omega)
   have cf := HCF.out k hk
   have ct := HCT.out k (Nat.le_of_lt hk)
   rw [if_neg (by have := HKn.out; omega)] at cf
   simp only [Int.toNat_natCast, Option.map_some] at cf ct
   rw [show ((⟨B, 0, none⟩ : Addr).add (k * 1)) = ⟨B, k, none⟩ by simp [Addr.add]; intro h; omega] at cf
   have HBd := am (below_drew HBr.out)
   have hPd : Aside0 (Part wr.drew B n k v) := ⟨hPr.out⟩
   have hcp := hPd.out.copy (Nat.le_of_lt hk) (n - k) n
   obtain ⟨m, hm⟩ : ∃ m, Nat.min k (n - k) = m := ⟨_, rfl⟩
   have Hm := am hm
   have HmB : Aside0 (1 ≤ m ∧ k + m ≤ n) := ⟨by have := HKn.out; have h1 := Nat.min_le_right k (n - k); have h2 : Nat.min k (n - k) = min k (n - k) := rfl; omega⟩
   rw [hm] at hcp
   clear hm
   have hw : wrap64 ((k : Int) + (m : Int)) = (k : Int) + m := by have := HmB.out; have := H6.out; unfold wrap64; omega
   cases gk with
   | zero => exact absurd HK.out (by omega)
   | succ k1 =>
   go_wp2_with fail
   refine start_ (n := 10) (S := fun w' => True) (ds := []) #[false, false, false, false, false, false, false, false, false, false] (by kernel_rfl) rfl rfl trivial (fun hHeld => ?_)
   generalize wr.drew = wd at HBd hPd hcp hHeld ⊢
   refine pure_ (i := 0) (N := some 38) (v := ?_) (a' := ?_) #[true, false, false, false, false, false, false, false, false, false] rfl rfl (by kernel_rfl) (fun _ _ _ h => h) (Or.inl ⟨by rfl, ?_⟩) ?_ ?_
   rotate_left
   ·intro w'
    go_simp
    with_reducible rfl
   rotate_left
   ·simp only [Act.put, sAa, sBb, sCc, i64_w, i32_w]
    rfl
   refine pure_ (i := 1) (N := some 39) (v := ?_) (a' := ?_) #[true, true, false, false, false, false, false, false, false, false] rfl rfl (by kernel_rfl) (fun _ _ _ h => h) (Or.inl ⟨by rfl, ?_⟩) ?_ ?_
   rotate_left
   ·intro w'
    go_simp
    with_reducible rfl
   rotate_left
   ·simp only [Act.put, sAa, sBb, sCc, i64_w, i32_w]
    rfl
   refine pure_ (i := 2) (N := some 40) (v := ?_) (a' := ?_) #[true, true, true, false, false, false, false, false, false, false] rfl rfl (by kernel_rfl) (fun _ _ _ h => h) (Or.inl ⟨by rfl, ?_⟩) ?_ ?_
   rotate_left
   ·intro w'
    go_simp
    with_reducible rfl
   rotate_left
   ·simp only [Act.put, sAa, sBb, sCc, i64_w, i32_w]
    rfl
   refine pure_ (i := 3) (N := some 41) (v := ?_) (a' := ?_) #[true, true, true, true, false, false, false, false, false, false] rfl rfl (by kernel_rfl) (fun _ _ _ h => h) (Or.inl ⟨by rfl, ?_⟩) ?_ ?_
   rotate_left
   ·intro w'
    go_simp
    with_reducible rfl
   rotate_left
   ·simp only [Act.put, sAa, sBb, sCc, i64_w, i32_w]
    rfl
   refine pure_ (i := 4) (N := some 42) (v := ?_) (a' := ?_) #[true, true, true, true, true, false, false, false, false, false] rfl rfl (by kernel_rfl) (fun _ _ _ h => h) (Or.inl ⟨by rfl, ?_⟩) ?_ ?_
   rotate_left
   ·intro w'
    go_simp
    with_reducible rfl
   rotate_left
   ·simp only [Act.put, sAa, sBb, sCc, i64_w, i32_w]
    rfl
   refine pure_ (i := 5) (N := some 43) (v := ?_) (a' := ?_) #[true, true, true, true, true, true, false, false, false, false] rfl rfl (by kernel_rfl) (fun _ _ _ h => h) (Or.inl ⟨by rfl, ?_⟩) ?_ ?_
   rotate_left
   ·intro w'
    go_simp
    with_reducible rfl
   rotate_left
   ·simp only [Act.put, sAa, sBb, sCc, i64_w, i32_w]
    rfl
   refine pure_ (i := 6) (N := some 44) (v := ?_) (a' := ?_) #[true, true, true, true, true, true, true, false, false, false] rfl rfl (by kernel_rfl) (fun _ _ _ h => h) (Or.inl ⟨by rfl, ?_⟩) ?_ ?_
   rotate_left
   ·intro w'
    go_simp
    with_reducible rfl
   rotate_left
   ·simp only [Act.put, sAa, sBb, sCc, i64_w, i32_w]
    rfl
   refine one_ (i := 7) (N := some 45) #[true, true, true, true, true, true, true, true, false, false] rfl rfl (by kernel_rfl) (by decide) (fun K hK => ?_)
   refine value_ (w1 := ?_) (v := ?_) (by rfl) rfl ?_ ?_
   rotate_left 2
   ·go_simp
    constructor
    ·rfl
    ·rfl
   have HB4 := am (below_sets (List.replicate m (.int .i64 v)) k wd HBd.out HBb.out)
   have hP4 := am (hPd.out.more (m := m) HmB.out.2)
   refine hK.out _ _ trivial (fun hHeld => ?_)
   clear hK K
   refine norm_ (a' := ?_) ?_ ?_
   rotate_left
   ·show Act.put _ (some 45) _ = _
    simp only [Act.put, sAa, sBb, sCc, i64_w, i32_w]
    rfl
   refine pure_ (i := 8) (N := some 46) (v := ?_) (a' := ?_) #[true, true, true, true, true, true, true, true, true, false] rfl rfl (by kernel_rfl) (fun _ _ _ h => h) (Or.inl ⟨by rfl, ?_⟩) ?_ ?_
   rotate_left
   ·intro w'
    go_simp
    with_reducible rfl
   rotate_left
   ·simp only [Act.put, sAa, sBb, sCc, i64_w, i32_w]
    rfl
   refine pure_ (i := 9) (N := some 8) (v := ?_) (a' := ?_) #[true, true, true, true, true, true, true, true, true, true] rfl rfl (by kernel_rfl) (fun _ _ _ h => h) (Or.inl ⟨by rfl, ?_⟩) ?_ ?_
   rotate_left
   ·intro w'
    go_simp
    with_reducible rfl
   rotate_left
   ·simp only [Act.put, sAa, sBb, sCc, i64_w, i32_w]
    rfl
   refine done_ (by kernel_rfl) ?_
   go_wp2_with fail
   go_roundg k1
   case measure => have := HK.out; have := HmB.out; omega
   case rel => exact ⟨k + m, (by first | rfl | simp), ⟨by have := HK.out; have := HmB.out; omega⟩, ⟨by have := HmB.out; omega⟩, HB4, hP4⟩
  ·have hkn : k = n := by have := HKn.out; omega
   subst hkn
   have hlt : decide ((k : Int) < (k : Int)) = false := decide_eq_false (by omega)
   go_wp2_with fail
   go_ret
   exact ⟨_, rfl, hPr.out.row _ HBb.out (by have := H6.out; omega), HBr.out⟩
end Go.Proofs.YtbefbhghmommhaaGreatDoor.MWo
namespace Go.Proofs.YtbefbhghmommhaaGreatDoor.MWo
open Go.RowKit Go.Proofs.YtbefbhghmommhaaGreatDoorW.PrintWords Go.Proofs.YtbefbhghmommhaaGreatDoorW.PrintLast Go.Proofs.YtbefbhghmommhaaGreatDoorW.PrintMore
attribute [local go_sem] mp_u32s mp_u32m mp_u8s mp_u8m max2_int min2_int max_two min_two max_three min_three max_four min_four
set_option linter.unusedVariables false
set_option linter.unusedSimpArgs false
def slices_Repeat_int_int.f (l0 : List Int) (a1 : Int) : Option (List Int) := if l0.length = 1 ∧ 1 ≤ a1 ∧ a1 ≤ 6 then some (List.replicate a1.toNat (l0.headD 0)) else none
theorem slices_Repeat_int_int.calls (A0 : Option Addr) (c0 : Nat) (l0 : List Int) (a1 : Int) (r : List Int) (w : World) (hr0 : Kd.C (Kd.int .i64) w A0 l0.length l0) (hc0 : l0.length ≤ c0) (h : slices_Repeat_int_int.f l0 a1 = some r) :
  Calls Tryz.prog 109 #[.slice A0 l0.length c0, .int .i64 a1] w fun e w' => ∃ v, e = .returned v ∧ Kd.R (Kd.int .i64) 3 w' w.heap.size (fun _ => True) v r ∧ Below w.heap.size w w' := by
 unfold slices_Repeat_int_int.f at h
 split at h
 ·rename_i hc
  obtain ⟨h1, h2, h3⟩ := hc
  injection h with h
  subst h
  obtain ⟨n, hn⟩ := Int.eq_ofNat_of_zero_le (show 0 ≤ a1 by omega)
  subst hn
  match l0, h1 with
  | [v], _ => exact repeat_walk A0 c0 v n w hr0 (by omega) (by omega)
 ·cases h
end Go.Proofs.YtbefbhghmommhaaGreatDoor.MWo
