/- Texts of this claim, laid together by a program (wip/g/merge5.py): Hb, Hc, Hd, HPt, HPq, HPl, Evl. -/
import Derived.Test.YtbefbhghmommhaaDoorZHz8
import Derived.Test.YtbefbhghmommhaaDoorZHz4
import Derived.Test.YtbefbhghmommhaaDoorZHz9
import Derived.Test.YtbefbhghmommhaaDoorZHz7
import Derived.Test.YtbefbhghmommhaaDoorZHz3
set_option linter.unusedVariables false
set_option linter.unusedSimpArgs false
namespace Go.Proofs.YtbefbhghmommhaaDoor.MWo
open Go.RowKit Go.Proofs.YtbefbhghmommhaaDoorW.PrintWords Go.Proofs.YtbefbhghmommhaaDoorW.PrintLast Go.Proofs.YtbefbhghmommhaaDoorW.PrintMore
structure SideOk (P : List S43) (T : List S39) (part : Int) (p : S37) : Prop where
 ne : (p.f0 == p.f1) = false
 part0 : 0 ≤ part
 part1 : part < P.length
 n0 : 0 ≤ p.f0
 n1 : p.f0 < (rd_T43 P part).f0
 m0 : 0 ≤ p.f1
 m1 : p.f1 < (rd_T43 P part).f0
 t0 : T.any (takes part p.f0) = false
 t1 : T.any (takes part p.f1) = false
set_option linter.unusedVariables false
set_option linter.unusedSimpArgs false
def sameEnds (a b : Int) (x : S39) : Bool := x.f0 == a && x.f1 == b
set_option maxHeartbeats 4000000 in
set_option maxRecDepth 4000 in
theorem same_walk (a b p0 p1 q0 q1 : Int) (bl : Nat) (x : S39) (w : World) (h : w.heap[bl]? = some (.cells #[.int .i64 a, .int .i64 b, .int .i64 p0, .int .i64 p1, .int .i64 q0, .int .i64 q1] 39)) :
  Calls Tryd.prog 51 #[val39 x, .pointer (some ⟨bl, 0, none⟩)] w fun e w' => e = .returned (.bool (sameEnds a b x)) ∧ Below w.heap.size w w' := by
 obtain ⟨xa, xb, ⟨x0, x1⟩, ⟨x2, x3⟩⟩ := x
 have c0 : w.cell? ⟨bl, 0, none⟩ = some (.int .i64 a) := (blk_cell h 0).trans rfl
 have c1 : w.cell? ⟨bl, 1, none⟩ = some (.int .i64 b) := (blk_cell h 1).trans rfl
 have hlt := blk_lt h
 have hne : bl ≠ w.heap.size := by omega
 have hne2 : w.heap.size ≠ bl := by omega
 clear h
 have HS : sameEnds a b ⟨xa, xb, ⟨x0, x1⟩, ⟨x2, x3⟩⟩ = (xa == a && xb == b) := rfl
 rw [HS]
 clear HS
 cases h1 : (xa == a) with
 | false =>
  go_enter Tryd.func51, Tryd.ntmps51
  go_wp2_with fail
  go_ret
  exact ⟨rfl, by repeat (first | exact Below.refl _ _ | apply below_alloc)⟩
 | true =>
  cases h2 : (xb == b) with
  | false =>
   go_enter Tryd.func51, Tryd.ntmps51
   go_wp2_with fail
   go_ret
   exact ⟨rfl, by repeat (first | exact Below.refl _ _ | apply below_alloc)⟩
  | true =>
   go_enter Tryd.func51, Tryd.ntmps51
   go_wp2_with fail
   go_ret
   exact ⟨rfl, by repeat (first | exact Below.refl _ _ | apply below_alloc)⟩
structure LinkOk (P : List S43) (T : List S39) (x : S39) : Prop where
 a0 : 0 ≤ x.f0
 ab : x.f0 < x.f1
 b1 : x.f1 < P.length
 once : T.any (sameEnds x.f0 x.f1) = false
 s0 : SideOk P T x.f0 x.f2
 s1 : SideOk P T x.f1 x.f3
def PartOk (p : S43) : Prop := 1 ≤ p.f0 ∧ p.f0 ≤ 12 ∧ 0 ≤ p.f1 ∧ p.f1 ≤ 3 ∧ 3 * p.f1 + 1 ≤ p.f0
structure NetOk (P : List S43) (L : List S39) : Prop where
 p1 : 1 ≤ P.length
 p6 : P.length ≤ 6
 parts : ∀ i : Int, 0 ≤ i → i < P.length → PartOk (rd_T43 P i)
 l10 : L.length ≤ 10
 links : ∀ i : Int, 0 ≤ i → i < L.length → LinkOk P (L.take i.toNat) (rd_T39 L i)
theorem as_nil (t : Value) (w : World) : Calls Tryd.prog 33 #[.nilIface, t] w fun e w' => e = .returned (.bool false) ∧ w' = w := by
 go_enter Tryd.func33, Tryd.ntmps33
 go_wp2
 go_ret
 exact ⟨rfl, rfl⟩
def partB (p : S43) : Bool := decide (1 ≤ p.f0) && (decide (p.f0 ≤ 12) && (decide (0 ≤ p.f1) && (decide (p.f1 ≤ 3) && decide (3 * p.f1 + 1 ≤ p.f0))))
theorem Er.below {W W' : World} {m : Nat} {v : Value} {e ea : Int} (h : Er W m v e ea) (hb : Below W.heap.size W W') : Er W' m v e ea := by
 rcases h with h | ⟨h0, q, hq, hv, h⟩
 ·exact Or.inl h
 ·exact Or.inr ⟨h0, q, hq, hv, blk_below h hb⟩
theorem Er.less {W : World} {m m' : Nat} {v : Value} {e ea : Int} (h : Er W m v e ea) (hm : m' ≤ m) : Er W m' v e ea := by
 rcases h with h | ⟨h0, q, hq, hv, h⟩
 ·exact Or.inl h
 ·exact Or.inr ⟨h0, q, Nat.le_trans hm hq, hv, h⟩
theorem wrong_walk (e n : Int) (w : World) (he : e ≠ 0) :
  Calls Tryd.prog 41 #[.int .i64 e, .int .i64 n] w fun ev w' => ∃ v, ev = .returned v ∧ Er w' w.heap.size v e n ∧ Below w.heap.size w w' := by
 have HE := am he
 clear he
 go_enter Tryd.func41, Tryd.ntmps41
 go_wp2_with fail
 go_ret
 exact ⟨_, rfl, Or.inr ⟨HE.out, w.heap.size, Nat.le_refl _, rfl, heap_alloc_new _ _⟩, below_alloc (Below.refl _ _) _⟩
def partsOk (P : List S43) : Prop := 1 ≤ P.length ∧ P.length ≤ 6 ∧ ∀ i : Int, 0 ≤ i → i < P.length → PartOk (rd_T43 P i)
set_option maxHeartbeats 8000000 in
set_option maxRecDepth 4000 in
theorem parts_any (A0 : Option Addr) (c0 : Nat) (P : List S43) (A1 : Option Addr) (c1 : Nat) (L : List S39) (a2 a3 a4 a5 a6 a7 a8 a9 a10 a11 a12 : Int) (w : World) (hr0 : Kd.C k43 w A0 P.length P) (hc0 : P.length ≤ c0) (hr1 : Kd.C k39 w A1 L.length L) (hc1 : L.length ≤ c1) (hP : P.length ≤ 1000) :
  Calls Tryd.prog 38 #[.agg #[.slice A0 P.length c0, .slice A1 L.length c1, .int .i64 a2, .int .i64 a3, .int .i64 a4, .int .i64 a5, .int .i64 a6, .int .i64 a7, .int .i64 a8, .int .i64 a9, .int .i64 a10, .int .i64 a11, .int .i64 a12]] w fun ev w' => ∃ v e ea, ev = .returned v ∧ Er w' w.heap.size v e ea ∧ (e = 0 ↔ partsOk P) ∧ Below w.heap.size w w' := by
 have HR0 := am hr0
 have HL := am hP
 clear hr0 hr1 hc0 hc1 hP
 by_cases hn1 : (P.length : Int) < 1
 ·have hd1 : decide ((P.length : Int) < 1) = true := dT hn1
  have HN : ¬ partsOk P := fun h => absurd h.1 (by omega)
  go_enter Tryd.func38, Tryd.ntmps38
  go_wp2_with (first | (go_at_call 41; refine (wrong_walk _ _ _ (by decide)).mono ?_; rintro ev w9 ⟨v9, rfl, hE9, hb9⟩))
  go_ret
  exact ⟨_, _, _, rfl, hE9.less (by simp), ⟨fun h => absurd h (by decide), fun h => absurd h HN⟩, below_step (below_alloc (Below.refl _ _) _) hb9⟩
 by_cases hn6 : (6 : Int) < P.length
 ·have hd1 : decide ((P.length : Int) < 1) = false := dF hn1
  have hd6 : decide ((6 : Int) < (P.length : Int)) = true := dT hn6
  have HN : ¬ partsOk P := fun h => absurd h.2.1 (by omega)
  go_enter Tryd.func38, Tryd.ntmps38
  go_wp2_with (first | (go_at_call 41; refine (wrong_walk _ _ _ (by decide)).mono ?_; rintro ev w9 ⟨v9, rfl, hE9, hb9⟩))
  go_ret
  exact ⟨_, _, _, rfl, hE9.less (by simp), ⟨fun h => absurd h (by decide), fun h => absurd h HN⟩, below_step (below_alloc (Below.refl _ _) _) hb9⟩
 have hd1 : decide ((P.length : Int) < 1) = false := dF hn1
 have hd6 : decide ((6 : Int) < (P.length : Int)) = false := dF hn6
 have HN := am (show 1 ≤ P.length ∧ P.length ≤ 6 by omega)
 clear hn1 hn6
 go_enter Tryd.func38, Tryd.ntmps38
 go_wp2_with fail
 have HB := am (below_alloc (Below.refl w.heap.size w) (Obj.cells #[.slice A0 P.length c0, .slice A1 L.length c1, .int .i64 a2, .int .i64 a3, .int .i64 a4, .int .i64 a5, .int .i64 a6, .int .i64 a7, .int .i64 a8, .int .i64 a9, .int .i64 a10, .int .i64 a11, .int .i64 a12] 25))
 generalize w.alloc (Obj.cells #[.slice A0 P.length c0, .slice A1 L.length c1, .int .i64 a2, .int .i64 a3, .int .i64 a4, .int .i64 a5, .int .i64 a6, .int .i64 a7, .int .i64 a8, .int .i64 a9, .int .i64 a10, .int .i64 a11, .int .i64 a12] 25) = wa at *
 clear hd1 hd6
 go_loopg [19] (P.length + 1) (fun kq v19 w' => ∃ i : Int, v19 = .int .i64 i ∧ Aside0 (kq + i = P.length + 1 ∧ 0 ≤ i) ∧ Aside0 (Below w.heap.size w w') ∧ Aside0 (∀ j : Int, 0 ≤ j → j < i → PartOk (rd_T43 P j)))
 case atStart => exact ⟨0, rfl, ⟨by omega⟩, HB, ⟨fun j h0 h1 => absurd h1 (by omega)⟩⟩
 case round =>
  clear HB
  obtain ⟨i, rfl, HK, HB, HD⟩ := hrel
  by_cases hi1 : i < (P.length : Int)
  ·have hi0 := HK.out.2
   obtain ⟨ad0, e0, y0, y1⟩ := at_T43 (Kd.C_below HR0.out HB.out) i hi0 hi1
   cases e0
   obtain ⟨n, f, hx⟩ : ∃ n f, rd_T43 P i = ⟨n, f⟩ := ⟨_, _, rfl⟩
   have HX := am hx
   rw [hx] at y0 y1
   clear hx
   dsimp only at y0 y1
   have hlt : decide (i < (P.length : Int)) = true := dT hi1
   have p0_ := eq_true hi0
   have p1_ := eq_true hi1
   have hw1 : wrap64 (i + 1) = i + 1 := by have := HL.out; unfold wrap64; omega
   cases gk with
   | zero => exact absurd HK.out (by omega)
   | succ k1 =>
   by_cases c0 : n < 1
   ·have t0 : decide (n < 1) = true := dT c0
    have HN2 : Aside0 (¬ partsOk P) := ⟨fun h => by have := h.2.2 i hi0 hi1; rw [HX.out] at this; unfold PartOk at this; dsimp only at this; omega⟩
    go_wp2_with (first | (go_at_call 41; refine (wrong_walk _ _ _ (by decide)).mono ?_; rintro ev w9 ⟨v9, rfl, hE9, hb9⟩))
    go_ret
    exact ⟨_, _, _, rfl, hE9.less (below_size (by repeat (first | exact HB.out | apply below_alloc))), ⟨fun h => absurd h (by decide), fun h => absurd h HN2.out⟩, below_step (by repeat (first | exact HB.out | apply below_alloc)) hb9⟩
   have t0 : decide (n < 1) = false := dF c0
   by_cases c1 : 12 < n
   ·have t1 : decide (12 < n) = true := dT c1
    have HN2 : Aside0 (¬ partsOk P) := ⟨fun h => by have := h.2.2 i hi0 hi1; rw [HX.out] at this; unfold PartOk at this; dsimp only at this; omega⟩
    go_wp2_with (first | (go_at_call 41; refine (wrong_walk _ _ _ (by decide)).mono ?_; rintro ev w9 ⟨v9, rfl, hE9, hb9⟩))
    go_ret
    exact ⟨_, _, _, rfl, hE9.less (below_size (by repeat (first | exact HB.out | apply below_alloc))), ⟨fun h => absurd h (by decide), fun h => absurd h HN2.out⟩, below_step (by repeat (first | exact HB.out | apply below_alloc)) hb9⟩
   have t1 : decide (12 < n) = false := dF c1
   by_cases c2 : f < 0
   ·have t2 : decide (f < 0) = true := dT c2
    have HN2 : Aside0 (¬ partsOk P) := ⟨fun h => by have := h.2.2 i hi0 hi1; rw [HX.out] at this; unfold PartOk at this; dsimp only at this; omega⟩
    go_wp2_with (first | (go_at_call 41; refine (wrong_walk _ _ _ (by decide)).mono ?_; rintro ev w9 ⟨v9, rfl, hE9, hb9⟩))
    go_ret
    exact ⟨_, _, _, rfl, hE9.less (below_size (by repeat (first | exact HB.out | apply below_alloc))), ⟨fun h => absurd h (by decide), fun h => absurd h HN2.out⟩, below_step (by repeat (first | exact HB.out | apply below_alloc)) hb9⟩
   have t2 : decide (f < 0) = false := dF c2
   by_cases c3 : 3 < f
   ·have t3 : decide (3 < f) = true := dT c3
    have HN2 : Aside0 (¬ partsOk P) := ⟨fun h => by have := h.2.2 i hi0 hi1; rw [HX.out] at this; unfold PartOk at this; dsimp only at this; omega⟩
    go_wp2_with (first | (go_at_call 41; refine (wrong_walk _ _ _ (by decide)).mono ?_; rintro ev w9 ⟨v9, rfl, hE9, hb9⟩))
    go_ret
    exact ⟨_, _, _, rfl, hE9.less (below_size (by repeat (first | exact HB.out | apply below_alloc))), ⟨fun h => absurd h (by decide), fun h => absurd h HN2.out⟩, below_step (by repeat (first | exact HB.out | apply below_alloc)) hb9⟩
   have t3 : decide (3 < f) = false := dF c3
   have t5 : wrap64 (3 * f) = 3 * f := by unfold wrap64; omega
   have t6 : wrap64 (3 * f + 1) = 3 * f + 1 := by unfold wrap64; omega
   by_cases c4 : n < 3 * f + 1
   ·have t7 : decide (n < 3 * f + 1) = true := dT c4
    have HN2 : Aside0 (¬ partsOk P) := ⟨fun h => by have := h.2.2 i hi0 hi1; rw [HX.out] at this; unfold PartOk at this; dsimp only at this; omega⟩
    go_wp2_with (first | (go_at_call 41; refine (wrong_walk _ _ _ (by decide)).mono ?_; rintro ev w9 ⟨v9, rfl, hE9, hb9⟩))
    go_ret
    exact ⟨_, _, _, rfl, hE9.less (below_size (by repeat (first | exact HB.out | apply below_alloc))), ⟨fun h => absurd h (by decide), fun h => absurd h HN2.out⟩, below_step (by repeat (first | exact HB.out | apply below_alloc)) hb9⟩
   have t7 : decide (n < 3 * f + 1) = false := dF c4
   have HY : Aside0 (PartOk (rd_T43 P i)) := ⟨by rw [HX.out]; unfold PartOk; dsimp only; omega⟩
   go_wp2_with fail
   go_roundg k1
   case measure => have := HK.out; omega
   case rel => exact ⟨i + 1, (by first | rfl | rw [hw1]), ⟨by have := HK.out; omega⟩, ⟨by repeat (first | exact HB.out | apply below_alloc)⟩, ⟨fun j h0 h1 => by
    by_cases hj : j < i
    ·exact HD.out j h0 hj
    ·have : j = i := by omega
     subst this
     exact HY.out⟩⟩
  ·have hlt : decide (i < (P.length : Int)) = false := dF hi1
   go_wp2_with fail
   go_ret
   have HF : partsOk P := ⟨HN.out.1, HN.out.2, fun j h0 h1 => HD.out j h0 (by omega)⟩
   exact ⟨.nilIface, rfl, (0 : Int), ⟨(0 : Int), Or.inl ⟨rfl, rfl⟩⟩, ⟨fun _ => HF, fun _ => rfl⟩, HB.out⟩
theorem idx_any (a0 a1 : Int) (w : World) : Calls Tryd.prog 49 #[.int .i64 a0, .int .i64 a1] w fun e w' => e = .returned (.bool (decide (0 ≤ a0) && decide (a0 < a1))) ∧ Below w.heap.size w w' :=
 (plan_index.calls a0 a1 (decide (0 ≤ a0) && decide (a0 < a1)) w (by
  unfold plan_index.f
  by_cases h : 0 ≤ a0
  ·rw [if_pos h, dT h, Bool.true_and]
  ·rw [if_neg h, dF h, Bool.false_and])).mono fun e w' h => ⟨h.1, h.2.below⟩
theorem taken_any (A1 : Option Addr) (c1 : Nat) (L : List S39) (i part node : Int) (w : World) (hr : Kd.C k39 w A1 L.length L) (hl : L.length ≤ 1000) (h0 : 0 ≤ i) (h1 : i ≤ L.length) :
  Calls Tryd.prog 56 #[.slice A1 i.toNat c1, .int .i64 part, .int .i64 node] w fun e w' => e = .returned (.bool ((L.take i.toNat).any (takes part node))) ∧ Below w.heap.size w w' := by
 have hlen : (L.take i.toNat).length = i.toNat := by rw [List.length_take]; omega
 have h := taken_walk A1 c1 (L.take i.toNat) part node w (by exact Kd.C_take hr (show i.toNat ≤ L.length by omega)) (by rw [hlen]; omega)
 rw [hlen] at h
 exact h
def nodeC (P : List S43) (T : List S39) (part n : Int) : Bool := (decide (0 ≤ n) && decide (n < (rd_T43 P part).f0)) && !T.any (takes part n)
def sideC (P : List S43) (T : List S39) (part n0 n1 : Int) : Bool := !(n0 == n1) && (nodeC P T part n0 && nodeC P T part n1)
def sideAt (k : Nat) (s0 s1 : Bool) : Bool := if k = 0 then s0 else s1
set_option maxHeartbeats 8000000 in
set_option maxRecDepth 4000 in
theorem ports_any (A0 : Option Addr) (c0 : Nat) (P : List S43) (A1 : Option Addr) (c1 : Nat) (L : List S39) (a2 a3 a4 a5 a6 a7 a8 a9 a10 a11 a12 : Int) (i a b p0 p1 q0 q1 : Int) (w : World) (hr0 : Kd.C k43 w A0 P.length P) (hc0 : P.length ≤ c0) (hr1 : Kd.C k39 w A1 L.length L) (hc1 : L.length ≤ c1) (hL : L.length ≤ 1000) (hi0 : 0 ≤ i) (hi1 : i < L.length)
  (hx : rd_T39 L i = ⟨a, b, ⟨p0, p1⟩, ⟨q0, q1⟩⟩) (ha0 : 0 ≤ a) (ha1 : a < P.length) (hb0 : 0 ≤ b) (hb1 : b < P.length) (r : Bool) (hr : (sideC P (L.take i.toNat) a p0 p1 && sideC P (L.take i.toNat) b q0 q1) = r) :
  Calls Tryd.prog 52 #[.agg #[.slice A0 P.length c0, .slice A1 L.length c1, .int .i64 a2, .int .i64 a3, .int .i64 a4, .int .i64 a5, .int .i64 a6, .int .i64 a7, .int .i64 a8, .int .i64 a9, .int .i64 a10, .int .i64 a11, .int .i64 a12], .int .i64 i] w fun e w' => e = .returned (.bool r) ∧ Below w.heap.size w w' := by
 have HR0 := am hr0
 have HR1 := am hr1
 have HC1 := am hc1
 have HX := am hx
 have HL := am hL
 have HAB := am (show (0 ≤ a ∧ a < P.length) ∧ (0 ≤ b ∧ b < P.length) from ⟨⟨ha0, ha1⟩, ⟨hb0, hb1⟩⟩)
 have HRr := am hr
 have hic : i ≤ (c1 : Int) := by omega
 obtain ⟨ad1, e1, _⟩ := at_T39 HR1.out i hi0 hi1
 obtain ⟨ad0, e0, _⟩ := at_T43 HR0.out a ha0 ha1
 clear hr0 hr1 hc0 hc1 hx hL ha0 ha1 hb0 hb1 hr
 subst e0
 subst e1
 have p0_ := eq_true hi0
 have p1_ := eq_true hi1
 go_enter Tryd.func52, Tryd.ntmps52
 go_wp2_with fail
 have HO : Aside0 ((w.alloc (.cells #[.slice (some ad0) P.length c0, .slice (some ad1) L.length c1, .int .i64 a2, .int .i64 a3, .int .i64 a4, .int .i64 a5, .int .i64 a6, .int .i64 a7, .int .i64 a8, .int .i64 a9, .int .i64 a10, .int .i64 a11, .int .i64 a12] 25)).heap[w.heap.size]? = some (.cells #[.slice (some ad0) P.length c0, .slice (some ad1) L.length c1, .int .i64 a2, .int .i64 a3, .int .i64 a4, .int .i64 a5, .int .i64 a6, .int .i64 a7, .int .i64 a8, .int .i64 a9, .int .i64 a10, .int .i64 a11, .int .i64 a12] 25)) := ⟨heap_alloc_new _ _⟩
 have HB := am (below_alloc (Below.refl w.heap.size w) (Obj.cells #[.slice (some ad0) P.length c0, .slice (some ad1) L.length c1, .int .i64 a2, .int .i64 a3, .int .i64 a4, .int .i64 a5, .int .i64 a6, .int .i64 a7, .int .i64 a8, .int .i64 a9, .int .i64 a10, .int .i64 a11, .int .i64 a12] 25))
 generalize w.alloc (Obj.cells #[.slice (some ad0) P.length c0, .slice (some ad1) L.length c1, .int .i64 a2, .int .i64 a3, .int .i64 a4, .int .i64 a5, .int .i64 a6, .int .i64 a7, .int .i64 a8, .int .i64 a9, .int .i64 a10, .int .i64 a11, .int .i64 a12] 25) = wa at *
 obtain ⟨bx, hbx⟩ : ∃ bx, bx = w.heap.size := ⟨_, rfl⟩
 rw [← hbx]
 rw [← hbx] at HO
 have HBX := am hbx
 clear hbx
 go_loopg [10] 3 (fun kq v10 w' => ∃ k : Nat, v10 = .int .i64 k ∧ Aside0 (kq + k = 3) ∧ Aside0 (k ≤ 2) ∧ Aside0 (Below w.heap.size w w') ∧ Aside0 (w'.heap[bx]? = some (.cells #[.slice (some ad0) P.length c0, .slice (some ad1) L.length c1, .int .i64 a2, .int .i64 a3, .int .i64 a4, .int .i64 a5, .int .i64 a6, .int .i64 a7, .int .i64 a8, .int .i64 a9, .int .i64 a10, .int .i64 a11, .int .i64 a12] 25)) ∧ Aside0 ((1 ≤ k → sideC P (L.take i.toNat) a p0 p1 = true) ∧ (2 ≤ k → sideC P (L.take i.toNat) b q0 q1 = true)))
 case atStart => exact ⟨0, rfl, ⟨by omega⟩, ⟨by omega⟩, HB, HO, ⟨fun h => absurd h (by omega), fun h => absurd h (by omega)⟩⟩
 case round =>
  clear HO HB
  obtain ⟨k, rfl, HK, HK2, HB, HO, HD⟩ := hrel
  cases gk with
  | zero => exact absurd HK.out (by have := HK2.out; omega)
  | succ k1 =>
  by_cases hk2 : k < 2
  ·have HKK := am (show k = 0 ∨ k = 1 by omega)
   obtain ⟨part, n0, n1, hpe, hpt0, hpt1, hsk⟩ : ∃ part n0 n1, plan_end.f a b p0 p1 q0 q1 (k : Int) = some (part, n0, n1) ∧ 0 ≤ part ∧ part < P.length ∧ sideC P (L.take i.toNat) part n0 n1 = sideAt k (sideC P (L.take i.toNat) a p0 p1) (sideC P (L.take i.toNat) b q0 q1) := by
    rcases HKK.out with e | e
    ·subst e; exact ⟨a, p0, p1, rfl, HAB.out.1.1, HAB.out.1.2, rfl⟩
    ·subst e; exact ⟨b, q0, q1, rfl, HAB.out.2.1, HAB.out.2.2, rfl⟩
   have HSk := am hsk
   clear hsk
   have hkl : decide ((k : Int) < 2) = true := dT (by omega)
   have hw1 : wrap64 ((k : Int) + 1) = (k : Int) + 1 := by unfold wrap64; omega
   clear hk2
   obtain ⟨x0, x1, x2, x3, x4, x5, x6, x7, x8, x9, x10, x11, x12⟩ := cellsK13 HO.out
   obtain ⟨ad', e1, y0, y1, y2, y3, y4, y5⟩ := at_T39 (Kd.C_below HR1.out HB.out) i hi0 hi1
   have e1' := Option.some.inj e1
   subst e1'
   clear e1
   rw [HX.out] at y0 y1 y2 y3 y4 y5
   dsimp only at y0 y1 y2 y3 y4 y5
   go_wp2_with fail
   refine (plan_end.calls a b p0 p1 q0 q1 (k : Int) part n0 n1 _ hpe).mono ?_
   rintro e w1 ⟨rfl, hb⟩
   clear x0 x1 x2 x3 x4 x5 x6 x7 x8 x9 x10 x11 x12 y0 y1 y2 y3 y4 y5 hpe
   have HB1 := am (below_step HB.out hb)
   have HO1 := am ((hb.block bx (blk_lt HO.out)).trans HO.out)
   clear hb
   cases hne : (n0 == n1) with
   | true =>
    obtain ⟨x0, x1, x2, x3, x4, x5, x6, x7, x8, x9, x10, x11, x12⟩ := cellsK13 HO1.out
    have e_ : r = false := by have := HRr.out; rw [← this]; have := HSk.out; have hF := (show sideC P (L.take i.toNat) part n0 n1 = false by unfold sideC; rw [hne]; rfl); rcases HKK.out with e | e <;> subst e <;> simp only [sideAt, if_true, if_false, Nat.one_ne_zero] at this <;> rw [← this, hF] <;> simp
    subst e_
    go_wp2_with fail
    go_ret
    exact ⟨rfl, by repeat (first | exact HB1.out | apply below_alloc)⟩
   | false =>
   obtain ⟨x0, x1, x2, x3, x4, x5, x6, x7, x8, x9, x10, x11, x12⟩ := cellsK13 HO1.out
   go_wp2_with fail
   have HB2 := am (below_alloc HB1.out (Obj.cells #[.int .i64 n0, .int .i64 n1] 37))
   have HO2 := am (((below_alloc (Below.refl w1.heap.size w1) (Obj.cells #[.int .i64 n0, .int .i64 n1] 37)).block bx (blk_lt HO1.out)).trans HO1.out)
   clear x0 x1 x2 x3 x4 x5 x6 x7 x8 x9 x10 x11 x12
   generalize w1.alloc (Obj.cells #[.int .i64 n0, .int .i64 n1] 37) = w2 at *
   have hq0_ := eq_true hpt0
   have hq1_ := eq_true hpt1
   have ix0 : ∀ w : World, (Instr.index 37 (.agg #[.int .i64 n0, .int .i64 n1]) (.int .i64 0)).run Tryd.prog w = .ok (.int .i64 n0) w := fun _ => by kernel_rfl
   have ix1 : ∀ w : World, (Instr.index 37 (.agg #[.int .i64 n0, .int .i64 n1]) (.int .i64 1)).run Tryd.prog w = .ok (.int .i64 n1) w := fun _ => by kernel_rfl
   refine wp_loop_rounds 3 ?_
   rw [rounds_succ]
   obtain ⟨x0, x1, x2, x3, x4, x5, x6, x7, x8, x9, x10, x11, x12⟩ := cellsK13 HO2.out
   obtain ⟨ad', e0, z0, z1⟩ := at_T43 (Kd.C_below HR0.out HB2.out) part hpt0 hpt1
   have e0' := Option.some.inj e0
   subst e0'
   clear e0
   go_wp2_with fail
   refine (idx_any _ _ _).mono ?_
   rintro e w3 ⟨rfl, hb⟩
   clear x0 x1 x2 x3 x4 x5 x6 x7 x8 x9 x10 x11 x12 z0 z1
   have HB3 := am (below_step HB2.out hb)
   have HO3 := am ((hb.block bx (blk_lt HO2.out)).trans HO2.out)
   clear hb
   cases hi0_ : (decide (0 ≤ n0) && decide (n0 < (rd_T43 P part).f0)) with
   | false =>
    obtain ⟨x0, x1, x2, x3, x4, x5, x6, x7, x8, x9, x10, x11, x12⟩ := cellsK13 HO3.out
    have e_ : r = false := by have := HRr.out; rw [← this]; have := HSk.out; have hF := (show sideC P (L.take i.toNat) part n0 n1 = false by unfold sideC nodeC; simp only [hi0_, Bool.false_and, Bool.and_false]); rcases HKK.out with e | e <;> subst e <;> simp only [sideAt, if_true, if_false, Nat.one_ne_zero] at this <;> rw [← this, hF] <;> simp
    subst e_
    go_wp2_with fail
    go_ret
    exact ⟨rfl, by repeat (first | exact HB3.out | apply below_alloc)⟩
   | true =>
   obtain ⟨x0, x1, x2, x3, x4, x5, x6, x7, x8, x9, x10, x11, x12⟩ := cellsK13 HO3.out
   go_wp2_with fail
   refine (taken_any _ c1 L i part n0 _ (Kd.C_below HR1.out HB3.out) HL.out hi0 (by omega)).mono ?_
   rintro e w4 ⟨rfl, hb⟩
   clear x0 x1 x2 x3 x4 x5 x6 x7 x8 x9 x10 x11 x12
   have HB4 := am (below_step HB3.out hb)
   have HO4 := am ((hb.block bx (blk_lt HO3.out)).trans HO3.out)
   clear hb
   cases ht0_ : (L.take i.toNat).any (takes part n0) with
   | true =>
    have e_ : r = false := by have := HRr.out; rw [← this]; have := HSk.out; have hF := (show sideC P (L.take i.toNat) part n0 n1 = false by unfold sideC nodeC; simp only [ht0_, Bool.not_true, Bool.false_and, Bool.and_false]); rcases HKK.out with e | e <;> subst e <;> simp only [sideAt, if_true, if_false, Nat.one_ne_zero] at this <;> rw [← this, hF] <;> simp
    subst e_
    go_wp2_with fail
    go_ret
    exact ⟨rfl, by repeat (first | exact HB4.out | apply below_alloc)⟩
   | false =>
   go_wp2_with fail
   rw [rounds_succ]
   obtain ⟨x0, x1, x2, x3, x4, x5, x6, x7, x8, x9, x10, x11, x12⟩ := cellsK13 HO4.out
   obtain ⟨ad', e0, z0, z1⟩ := at_T43 (Kd.C_below HR0.out HB4.out) part hpt0 hpt1
   have e0' := Option.some.inj e0
   subst e0'
   clear e0
   go_wp2_with fail
   refine (idx_any _ _ _).mono ?_
   rintro e w5 ⟨rfl, hb⟩
   clear x0 x1 x2 x3 x4 x5 x6 x7 x8 x9 x10 x11 x12 z0 z1
   have HB5 := am (below_step HB4.out hb)
   have HO5 := am ((hb.block bx (blk_lt HO4.out)).trans HO4.out)
   clear hb
   cases hi1_ : (decide (0 ≤ n1) && decide (n1 < (rd_T43 P part).f0)) with
   | false =>
    obtain ⟨x0, x1, x2, x3, x4, x5, x6, x7, x8, x9, x10, x11, x12⟩ := cellsK13 HO5.out
    have e_ : r = false := by have := HRr.out; rw [← this]; have := HSk.out; have hF := (show sideC P (L.take i.toNat) part n0 n1 = false by unfold sideC nodeC; simp only [hi1_, Bool.false_and, Bool.and_false]); rcases HKK.out with e | e <;> subst e <;> simp only [sideAt, if_true, if_false, Nat.one_ne_zero] at this <;> rw [← this, hF] <;> simp
    subst e_
    go_wp2_with fail
    go_ret
    exact ⟨rfl, by repeat (first | exact HB5.out | apply below_alloc)⟩
   | true =>
   obtain ⟨x0, x1, x2, x3, x4, x5, x6, x7, x8, x9, x10, x11, x12⟩ := cellsK13 HO5.out
   go_wp2_with fail
   refine (taken_any _ c1 L i part n1 _ (Kd.C_below HR1.out HB5.out) HL.out hi0 (by omega)).mono ?_
   rintro e w6 ⟨rfl, hb⟩
   clear x0 x1 x2 x3 x4 x5 x6 x7 x8 x9 x10 x11 x12
   have HB6 := am (below_step HB5.out hb)
   have HO6 := am ((hb.block bx (blk_lt HO5.out)).trans HO5.out)
   clear hb
   cases ht1_ : (L.take i.toNat).any (takes part n1) with
   | true =>
    have e_ : r = false := by have := HRr.out; rw [← this]; have := HSk.out; have hF := (show sideC P (L.take i.toNat) part n0 n1 = false by unfold sideC nodeC; simp only [ht1_, Bool.not_true, Bool.false_and, Bool.and_false]); rcases HKK.out with e | e <;> subst e <;> simp only [sideAt, if_true, if_false, Nat.one_ne_zero] at this <;> rw [← this, hF] <;> simp
    subst e_
    go_wp2_with fail
    go_ret
    exact ⟨rfl, by repeat (first | exact HB6.out | apply below_alloc)⟩
   | false =>
   go_wp2_with fail
   rw [rounds_succ]
   go_wp2_with fail
   have HY := am (show sideC P (L.take i.toNat) part n0 n1 = true by unfold sideC nodeC; simp only [hne, hi0_, hi1_, ht0_, ht1_, Bool.not_false, Bool.true_and, Bool.and_true])
   go_roundg k1
   case measure => have := HK.out; omega
   case rel =>
    refine ⟨k + 1, (by first | rfl | (rw [hw1]; rfl)), ⟨by have := HK.out; omega⟩, ⟨by rcases HKK.out with e | e <;> omega⟩, HB6, HO6, ⟨?_, ?_⟩⟩
    ·intro _
     rcases HKK.out with e | e
     ·subst e; exact HSk.out.symm.trans HY.out
     ·subst e; exact HD.out.1 (by omega)
    ·intro h2
     rcases HKK.out with e | e
     ·subst e; exact absurd h2 (by omega)
     ·subst e; exact HSk.out.symm.trans HY.out
  ·have e : k = 2 := by have := HK2.out; omega
   subst e
   have e_ : r = true := by have := HRr.out; rw [← this, HD.out.1 (by omega), HD.out.2 (by omega)]; rfl
   subst e_
   go_wp2_with fail
   go_ret
   exact ⟨rfl, HB.out⟩
theorem twice_any (a b p0 p1 q0 q1 : Int) (bl : Nat) (A1 : Option Addr) (c1 : Nat) (L : List S39) (i : Int) (w : World) (hr : Kd.C k39 w A1 L.length L) (hl : L.length ≤ 1000) (h0 : 0 ≤ i) (h1 : i ≤ L.length)
  (h : w.heap[bl]? = some (.cells #[.int .i64 a, .int .i64 b, .int .i64 p0, .int .i64 p1, .int .i64 q0, .int .i64 q1] 39)) :
  Calls Tryd.prog 50 #[.slice A1 i.toNat c1, .func (.func 51) #[] #[.pointer (some ⟨bl, 0, none⟩)]] w fun e w' => e = .returned (.bool ((L.take i.toNat).any (sameEnds a b))) ∧ Below w.heap.size w w' := by
 have hlen : (L.take i.toNat).length = i.toNat := by rw [List.length_take]; omega
 have h := containsFunc (sameEnds a b) 51 #[.pointer (some ⟨bl, 0, none⟩)] (entersT Tryd.func51 (by kernel_rfl) rfl) A1 c1 (L.take i.toNat) w (Kd.C_take hr (show i.toNat ≤ L.length by omega)) (by rw [hlen]; omega)
  (fun W x hW => same_walk a b p0 p1 q0 q1 bl x W ((hW.block bl (blk_lt h)).trans h))
 rw [hlen] at h
 exact h
def linkC (P : List S43) (T : List S39) (x : S39) : Bool :=
 (decide (0 ≤ x.f0) && decide (x.f0 < (P.length : Int))) && ((decide (0 ≤ x.f1) && decide (x.f1 < (P.length : Int))) && (!decide (x.f1 ≤ x.f0) && (!T.any (sameEnds x.f0 x.f1) && (sideC P T x.f0 x.f2.f0 x.f2.f1 && sideC P T x.f1 x.f3.f0 x.f3.f1))))
def linksOk (P : List S43) (L : List S39) : Prop := L.length ≤ 10 ∧ ∀ i : Int, 0 ≤ i → i < L.length → linkC P (L.take i.toNat) (rd_T39 L i) = true
set_option maxHeartbeats 8000000 in
set_option maxRecDepth 4000 in
theorem links_any (A0 : Option Addr) (c0 : Nat) (P : List S43) (A1 : Option Addr) (c1 : Nat) (L : List S39) (a2 a3 a4 a5 a6 a7 a8 a9 a10 a11 a12 : Int) (w : World) (hr0 : Kd.C k43 w A0 P.length P) (hc0 : P.length ≤ c0) (hr1 : Kd.C k39 w A1 L.length L) (hc1 : L.length ≤ c1) (hL : L.length ≤ 1000) :
  Calls Tryd.prog 39 #[.agg #[.slice A0 P.length c0, .slice A1 L.length c1, .int .i64 a2, .int .i64 a3, .int .i64 a4, .int .i64 a5, .int .i64 a6, .int .i64 a7, .int .i64 a8, .int .i64 a9, .int .i64 a10, .int .i64 a11, .int .i64 a12]] w fun ev w' => ∃ v e ea, ev = .returned v ∧ Er w' w.heap.size v e ea ∧ (e = 0 ↔ linksOk P L) ∧ Below w.heap.size w w' := by
 have HR0 := am hr0
 have HR1 := am hr1
 have HC0 := am hc0
 have HC1 := am hc1
 by_cases h10 : (10 : Int) < L.length
 ·have hd : decide ((10 : Int) < (L.length : Int)) = true := dT h10
  have HN : ¬ linksOk P L := fun h => absurd h.1 (by omega)
  clear hr0 hr1 hc0 hc1 hL
  go_enter Tryd.func39, Tryd.ntmps39
  go_wp2_with (first | (go_at_call 41; refine (wrong_walk _ _ _ (by decide)).mono ?_; rintro ev w9 ⟨v9, rfl, hE9, hb9⟩))
  go_ret
  exact ⟨_, _, _, rfl, hE9.less (by simp), ⟨fun h => absurd h (by decide), fun h => absurd h HN⟩, below_step (below_alloc (Below.refl _ _) _) hb9⟩
 have hd : decide ((10 : Int) < (L.length : Int)) = false := dF h10
 have HL := am (show L.length ≤ 10 by omega)
 clear hr0 hr1 hc0 hc1 hL h10
 go_enter Tryd.func39, Tryd.ntmps39
 go_wp2_with fail
 have HO : Aside0 ((w.alloc (.cells #[.slice A0 P.length c0, .slice A1 L.length c1, .int .i64 a2, .int .i64 a3, .int .i64 a4, .int .i64 a5, .int .i64 a6, .int .i64 a7, .int .i64 a8, .int .i64 a9, .int .i64 a10, .int .i64 a11, .int .i64 a12] 25)).heap[w.heap.size]? = some (.cells #[.slice A0 P.length c0, .slice A1 L.length c1, .int .i64 a2, .int .i64 a3, .int .i64 a4, .int .i64 a5, .int .i64 a6, .int .i64 a7, .int .i64 a8, .int .i64 a9, .int .i64 a10, .int .i64 a11, .int .i64 a12] 25)) := ⟨heap_alloc_new _ _⟩
 have HB := am (below_alloc (Below.refl w.heap.size w) (Obj.cells #[.slice A0 P.length c0, .slice A1 L.length c1, .int .i64 a2, .int .i64 a3, .int .i64 a4, .int .i64 a5, .int .i64 a6, .int .i64 a7, .int .i64 a8, .int .i64 a9, .int .i64 a10, .int .i64 a11, .int .i64 a12] 25))
 generalize w.alloc (Obj.cells #[.slice A0 P.length c0, .slice A1 L.length c1, .int .i64 a2, .int .i64 a3, .int .i64 a4, .int .i64 a5, .int .i64 a6, .int .i64 a7, .int .i64 a8, .int .i64 a9, .int .i64 a10, .int .i64 a11, .int .i64 a12] 25) = wa at *
 obtain ⟨bx, hbx⟩ : ∃ bx, bx = w.heap.size := ⟨_, rfl⟩
 rw [← hbx]
 rw [← hbx] at HO
 have HBX := am hbx
 clear hbx hd
 go_loopg [13] (L.length + 1) (fun kq v13 w' => ∃ i : Int, v13 = .int .i64 i ∧ Aside0 (kq + i = L.length + 1 ∧ 0 ≤ i) ∧ Aside0 (Below w.heap.size w w') ∧ Aside0 (w'.heap[bx]? = some (.cells #[.slice A0 P.length c0, .slice A1 L.length c1, .int .i64 a2, .int .i64 a3, .int .i64 a4, .int .i64 a5, .int .i64 a6, .int .i64 a7, .int .i64 a8, .int .i64 a9, .int .i64 a10, .int .i64 a11, .int .i64 a12] 25)) ∧ Aside0 (∀ j : Int, 0 ≤ j → j < i → linkC P (L.take j.toNat) (rd_T39 L j) = true))
 case atStart => exact ⟨0, rfl, ⟨by omega⟩, HB, HO, ⟨fun j h0 h1 => absurd h1 (by omega)⟩⟩
 case round =>
  clear HO HB
  obtain ⟨i, rfl, HK, HB, HO, HD⟩ := hrel
  by_cases hi1 : i < (L.length : Int)
  ·have hi0 := HK.out.2
   obtain ⟨ad1, e1, y0, y1, y2, y3, y4, y5⟩ := at_T39 (Kd.C_below HR1.out HB.out) i hi0 hi1
   cases e1
   obtain ⟨x, hx⟩ : ∃ x, rd_T39 L i = x := ⟨_, rfl⟩
   have HX := am hx
   rw [hx] at y0 y1 y2 y3 y4 y5
   clear hx
   obtain ⟨a, b, ⟨p0, p1⟩, ⟨q0, q1⟩⟩ := x
   dsimp only at y0 y1 y2 y3 y4 y5
   have hlt : decide (i < (L.length : Int)) = true := dT hi1
   have p0_ := eq_true hi0
   have p1_ := eq_true hi1
   have hic : i ≤ (c1 : Int) := by have := HC1.out; omega
   have hw1 : wrap64 (i + 1) = i + 1 := by have := HL.out; unfold wrap64; omega
   cases gk with
   | zero => exact absurd HK.out (by omega)
   | succ k1 =>
   obtain ⟨x0, x1, x2, x3, x4, x5, x6, x7, x8, x9, x10, x11, x12⟩ := cellsK13 HO.out
   go_upto_region 6 with fail
   have HB1 := am (below_alloc HB.out (Obj.cells #[.int .i64 a, .int .i64 b, .int .i64 p0, .int .i64 p1, .int .i64 q0, .int .i64 q1] 39))
   have HO1 := am (((below_alloc (Below.refl wr.heap.size wr) (Obj.cells #[.int .i64 a, .int .i64 b, .int .i64 p0, .int .i64 p1, .int .i64 q0, .int .i64 q1] 39)).block bx (blk_lt HO.out)).trans HO.out)
   have HLk1 : Aside0 ((wr.alloc (Obj.cells #[.int .i64 a, .int .i64 b, .int .i64 p0, .int .i64 p1, .int .i64 q0, .int .i64 q1] 39)).heap[wr.heap.size]? = some (Obj.cells #[.int .i64 a, .int .i64 b, .int .i64 p0, .int .i64 p1, .int .i64 q0, .int .i64 q1] 39)) := ⟨heap_alloc_new _ _⟩
   clear x0 x1 x2 x3 x4 x5 x6 x7 x8 x9 x10 x11 x12 y0 y1 y2 y3 y4 y5
   generalize wr.alloc (Obj.cells #[.int .i64 a, .int .i64 b, .int .i64 p0, .int .i64 p1, .int .i64 q0, .int .i64 q1] 39) = w1 at *
   generalize wr.heap.size = bl at *
   obtain ⟨x0, x1, x2, x3, x4, x5, x6, x7, x8, x9, x10, x11, x12⟩ := cellsK13 HO1.out
   obtain ⟨l0, l1, l2, l3, l4, l5⟩ := cellsK6 HLk1.out
   go_wp2_with fail
   refine (idx_any _ _ _).mono ?_
   rintro e w2 ⟨rfl, hb⟩
   clear x0 x1 x2 x3 x4 x5 x6 x7 x8 x9 x10 x11 x12 l0 l1 l2 l3 l4 l5
   have HB2 := am (below_step HB1.out hb)
   have HO2 := am ((hb.block bx (blk_lt HO1.out)).trans HO1.out)
   have HLk2 := am ((hb.block bl (blk_lt HLk1.out)).trans HLk1.out)
   clear hb
   cases h1_ : (decide (0 ≤ a) && decide (a < (P.length : Int))) with
   | false =>
    obtain ⟨x0, x1, x2, x3, x4, x5, x6, x7, x8, x9, x10, x11, x12⟩ := cellsK13 HO2.out
    obtain ⟨l0, l1, l2, l3, l4, l5⟩ := cellsK6 HLk2.out
    have HN2 : Aside0 (¬ linksOk P L) := ⟨fun h => by have := h.2 i hi0 hi1; rw [HX.out] at this; unfold linkC at this; simp only [h1_, Bool.false_and, Bool.and_false, Bool.not_true, Bool.false_eq_true] at this⟩
    go_wp2_with (first | (go_at_call 41; refine (wrong_walk _ _ _ (by decide)).mono ?_; rintro ev w9 ⟨v9, rfl, hE9, hb9⟩))
    go_ret
    exact ⟨_, _, _, rfl, hE9.less (below_size HB2.out), ⟨fun h => absurd h (by decide), fun h => absurd h HN2.out⟩, below_step HB2.out hb9⟩
   | true =>
   obtain ⟨x0, x1, x2, x3, x4, x5, x6, x7, x8, x9, x10, x11, x12⟩ := cellsK13 HO2.out
   obtain ⟨l0, l1, l2, l3, l4, l5⟩ := cellsK6 HLk2.out
   go_wp2_with fail
   refine (idx_any _ _ _).mono ?_
   rintro e w3 ⟨rfl, hb⟩
   clear x0 x1 x2 x3 x4 x5 x6 x7 x8 x9 x10 x11 x12 l0 l1 l2 l3 l4 l5
   have HB3 := am (below_step HB2.out hb)
   have HO3 := am ((hb.block bx (blk_lt HO2.out)).trans HO2.out)
   have HLk3 := am ((hb.block bl (blk_lt HLk2.out)).trans HLk2.out)
   clear hb
   cases h2_ : (decide (0 ≤ b) && decide (b < (P.length : Int))) with
   | false =>
    obtain ⟨x0, x1, x2, x3, x4, x5, x6, x7, x8, x9, x10, x11, x12⟩ := cellsK13 HO3.out
    obtain ⟨l0, l1, l2, l3, l4, l5⟩ := cellsK6 HLk3.out
    have HN2 : Aside0 (¬ linksOk P L) := ⟨fun h => by have := h.2 i hi0 hi1; rw [HX.out] at this; unfold linkC at this; simp only [h1_, h2_, Bool.false_and, Bool.and_false, Bool.not_true, Bool.false_eq_true] at this⟩
    go_wp2_with (first | (go_at_call 41; refine (wrong_walk _ _ _ (by decide)).mono ?_; rintro ev w9 ⟨v9, rfl, hE9, hb9⟩))
    go_ret
    exact ⟨_, _, _, rfl, hE9.less (below_size HB3.out), ⟨fun h => absurd h (by decide), fun h => absurd h HN2.out⟩, below_step HB3.out hb9⟩
   | true =>
   cases h3_ : decide (b ≤ a) with
   | true =>
    obtain ⟨x0, x1, x2, x3, x4, x5, x6, x7, x8, x9, x10, x11, x12⟩ := cellsK13 HO3.out
    obtain ⟨l0, l1, l2, l3, l4, l5⟩ := cellsK6 HLk3.out
    have HN2 : Aside0 (¬ linksOk P L) := ⟨fun h => by have := h.2 i hi0 hi1; rw [HX.out] at this; unfold linkC at this; simp only [h1_, h2_, h3_, Bool.false_and, Bool.and_false, Bool.not_true, Bool.false_eq_true] at this⟩
    go_wp2_with (first | (go_at_call 41; refine (wrong_walk _ _ _ (by decide)).mono ?_; rintro ev w9 ⟨v9, rfl, hE9, hb9⟩))
    go_ret
    exact ⟨_, _, _, rfl, hE9.less (below_size HB3.out), ⟨fun h => absurd h (by decide), fun h => absurd h HN2.out⟩, below_step HB3.out hb9⟩
   | false =>
   obtain ⟨x0, x1, x2, x3, x4, x5, x6, x7, x8, x9, x10, x11, x12⟩ := cellsK13 HO3.out
   obtain ⟨l0, l1, l2, l3, l4, l5⟩ := cellsK6 HLk3.out
   go_wp2_with fail
   refine (twice_any a b p0 p1 q0 q1 bl _ c1 L i _ (Kd.C_below HR1.out HB3.out) (by have := HL.out; omega) hi0 (by omega) HLk3.out).mono ?_
   rintro e w4 ⟨rfl, hb⟩
   clear x0 x1 x2 x3 x4 x5 x6 x7 x8 x9 x10 x11 x12 l0 l1 l2 l3 l4 l5
   have HB4 := am (below_step HB3.out hb)
   have HO4 := am ((hb.block bx (blk_lt HO3.out)).trans HO3.out)
   have HLk4 := am ((hb.block bl (blk_lt HLk3.out)).trans HLk3.out)
   clear hb
   cases h4_ : (L.take i.toNat).any (sameEnds a b) with
   | true =>
    obtain ⟨x0, x1, x2, x3, x4, x5, x6, x7, x8, x9, x10, x11, x12⟩ := cellsK13 HO4.out
    obtain ⟨l0, l1, l2, l3, l4, l5⟩ := cellsK6 HLk4.out
    have HN2 : Aside0 (¬ linksOk P L) := ⟨fun h => by have := h.2 i hi0 hi1; rw [HX.out] at this; unfold linkC at this; simp only [h1_, h2_, h3_, h4_, Bool.false_and, Bool.and_false, Bool.not_true, Bool.false_eq_true] at this⟩
    go_wp2_with (first | (go_at_call 41; refine (wrong_walk _ _ _ (by decide)).mono ?_; rintro ev w9 ⟨v9, rfl, hE9, hb9⟩))
    go_ret
    exact ⟨_, _, _, rfl, hE9.less (below_size HB4.out), ⟨fun h => absurd h (by decide), fun h => absurd h HN2.out⟩, below_step HB4.out hb9⟩
   | false =>
   have h1' := h1_
   have h2' := h2_
   simp only [Bool.and_eq_true, decide_eq_true_eq] at h1' h2'
   obtain ⟨r, hr⟩ : ∃ r, (sideC P (L.take i.toNat) a p0 p1 && sideC P (L.take i.toNat) b q0 q1) = r := ⟨_, rfl⟩
   have HRr := am hr
   obtain ⟨x0, x1, x2, x3, x4, x5, x6, x7, x8, x9, x10, x11, x12⟩ := cellsK13 HO4.out
   obtain ⟨l0, l1, l2, l3, l4, l5⟩ := cellsK6 HLk4.out
   go_wp2_with fail
   refine (ports_any A0 c0 P (some ad1) c1 L a2 a3 a4 a5 a6 a7 a8 a9 a10 a11 a12 i a b p0 p1 q0 q1 _ (Kd.C_below HR0.out HB4.out) HC0.out (Kd.C_below HR1.out HB4.out) HC1.out (by have := HL.out; omega) hi0 hi1 HX.out h1'.1 h1'.2 h2'.1 h2'.2 r HRr.out).mono ?_
   rintro e w5 ⟨rfl, hb⟩
   clear hr h1' h2'
   clear x0 x1 x2 x3 x4 x5 x6 x7 x8 x9 x10 x11 x12 l0 l1 l2 l3 l4 l5
   have HB5 := am (below_step HB4.out hb)
   have HO5 := am ((hb.block bx (blk_lt HO4.out)).trans HO4.out)
   have HLk5 := am ((hb.block bl (blk_lt HLk4.out)).trans HLk4.out)
   clear hb
   cases r with
   | false =>
    have h5_ := HRr.out
    obtain ⟨x0, x1, x2, x3, x4, x5, x6, x7, x8, x9, x10, x11, x12⟩ := cellsK13 HO5.out
    obtain ⟨l0, l1, l2, l3, l4, l5⟩ := cellsK6 HLk5.out
    have HN2 : Aside0 (¬ linksOk P L) := ⟨fun h => by have := h.2 i hi0 hi1; rw [HX.out] at this; unfold linkC at this; simp only [h1_, h2_, h3_, h4_, h5_, Bool.false_and, Bool.and_false, Bool.not_true, Bool.false_eq_true] at this⟩
    go_wp2_with (first | (go_at_call 41; refine (wrong_walk _ _ _ (by decide)).mono ?_; rintro ev w9 ⟨v9, rfl, hE9, hb9⟩))
    go_ret
    exact ⟨_, _, _, rfl, hE9.less (below_size HB5.out), ⟨fun h => absurd h (by decide), fun h => absurd h HN2.out⟩, below_step HB5.out hb9⟩
   | true =>
   have HY : Aside0 (linkC P (L.take i.toNat) (rd_T39 L i) = true) := ⟨by rw [HX.out]; unfold linkC; simp only [h1_, h2_, h3_, h4_, HRr.out, Bool.not_false, Bool.true_and, Bool.and_true]⟩
   go_wp2_with fail
   go_roundg k1
   case measure => have := HK.out; omega
   case rel => exact ⟨i + 1, (by first | rfl | rw [hw1]), ⟨by have := HK.out; omega⟩, HB5, HO5, ⟨fun j h0 h1 => by
    by_cases hj : j < i
    ·exact HD.out j h0 hj
    ·have : j = i := by omega
     subst this
     exact HY.out⟩⟩
  ·have hlt : decide (i < (L.length : Int)) = false := dF hi1
   have HF : linksOk P L := ⟨HL.out, fun j h0 h1 => HD.out j h0 (by omega)⟩
   go_wp2_with fail
   go_ret
   exact ⟨.nilIface, rfl, (0 : Int), ⟨(0 : Int), Or.inl ⟨rfl, rfl⟩⟩, rfl, HB.out⟩
end Go.Proofs.YtbefbhghmommhaaDoor.MWo
namespace Go.Proofs.YtbefbhghmommhaaDoor.Evl
open Go.Proofs.YtbefbhghmommhaaDoorW.PrintWords
def Evl {α : Type} (g : Nat → Option α) (r : α) : Prop := ∃ K, ∀ k, K ≤ k → g k = some r
theorem Evl.now {α : Type} {g : Nat → Option α} {r : α} (h : ∀ k, g k = some r) : Evl g r := ⟨0, fun k _ => h k⟩
theorem Evl.step {α : Type} {g h : Nat → Option α} {r : α} (e : ∀ k, g (k + 1) = h k) (hh : Evl h r) : Evl g r := by
  obtain ⟨K, hK⟩ := hh
  exact ⟨K + 1, fun k hk => by obtain ⟨m, rfl⟩ : ∃ m, k = m + 1 := ⟨k - 1, by omega⟩; rw [e]; exact hK m (by omega)⟩
theorem Evl.succ {α : Type} {g : Nat → Option α} {r : α} (hh : Evl (fun k => g (k + 1)) r) : Evl g r := Evl.step (fun _ => rfl) hh
theorem Evl.stop {α : Type} {g : Nat → Option α} {r : α} (e : ∀ k, g (k + 1) = some r) : Evl g r := Evl.step (h := fun _ => some r) e (Evl.now fun _ => rfl)
theorem Evl.congr {α : Type} {g h : Nat → Option α} {r : α} (e : ∀ k, g k = h k) (hh : Evl h r) : Evl g r := by
  have : g = h := funext e
  rw [this]; exact hh
theorem Evl.bind {α β : Type} {f : Nat → Option α} {g : Nat → α → Option β} {a : α} {r : β} (hf : Evl f a) (hg : Evl (fun k => g k a) r) : Evl (fun k => (f k).bind (g k)) r := by
  obtain ⟨K, hK⟩ := hf
  obtain ⟨M, hM⟩ := hg
  exact ⟨max K M, fun k hk => by simp only [hK k (by omega), Option.bind_some]; exact hM k (by omega)⟩
theorem Evl.some_ {α : Type} {g : Nat → Option α} {r : α} (h : Evl g r) : ∃ k, g k = some r := by
  obtain ⟨K, hK⟩ := h
  exact ⟨K, hK K (Nat.le_refl _)⟩
theorem Evl.mono {α : Type} {g : Nat → Option α} {r : α} (h : ∀ k, LeO (g k) (g (k + 1))) {n : Nat} (hn : g n = some r) : Evl g r :=
  ⟨n, fun _ hk => at_rounds h hk hn⟩
theorem Evl.and {α β : Type} {f : Nat → Option α} {g : Nat → Option β} {a : α} {b : β} (hf : Evl f a) (hg : Evl g b) : ∃ K, ∀ k, K ≤ k → f k = some a ∧ g k = some b := by
  obtain ⟨K, hK⟩ := hf
  obtain ⟨M, hM⟩ := hg
  exact ⟨max K M, fun k hk => ⟨hK k (by omega), hM k (by omega)⟩⟩
end Go.Proofs.YtbefbhghmommhaaDoor.Evl
