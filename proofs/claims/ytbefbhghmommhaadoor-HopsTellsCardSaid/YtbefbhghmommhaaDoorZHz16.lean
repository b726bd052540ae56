/- Texts of this claim, laid together by a program (wip/g/merge5.py): HPr, HPv, MWox45, MWox46, MWox47. -/
import Derived.Test.YtbefbhghmommhaaDoorZHz15
import Derived.Test.YtbefbhghmommhaaDoorZHz11
import Derived.BigQuiet
import Derived.Test.YtbefbhghmommhaaDoorZHz13
import Derived.Test.YtbefbhghmommhaaDoorZHz4
import Derived.Test.YtbefbhghmommhaaDoorZHz10
set_option linter.unusedVariables false
set_option linter.unusedSimpArgs false
namespace Go.Proofs.YtbefbhghmommhaaDoor.MWo
open Go.RowKit Go.Proofs.YtbefbhghmommhaaDoorW.PrintWords Go.Proofs.YtbefbhghmommhaaDoorW.PrintLast Go.Proofs.YtbefbhghmommhaaDoorW.PrintMore
set_option maxHeartbeats 8000000 in
set_option maxRecDepth 10000 in
theorem rlink_any (A0 : Option Addr) (c0 : Nat) (P : List S43) (A1 : Option Addr) (c1 : Nat) (L : List S39) (a2 a3 a4 a5 a6 a7 a8 a9 a10 a11 a12 : Int) (i : Int) (w : World) (hr0 : Kd.C k43 w A0 P.length P) (hc0 : P.length ≤ c0) (hr1 : Kd.C k39 w A1 L.length L) (hc1 : L.length ≤ c1) (hL : L.length ≤ 1000) (hi0 : 0 ≤ i) (hi1 : i < L.length) :
  Calls Tryd.prog 31 #[.agg #[.slice A0 P.length c0, .slice A1 L.length c1, .int .i64 a2, .int .i64 a3, .int .i64 a4, .int .i64 a5, .int .i64 a6, .int .i64 a7, .int .i64 a8, .int .i64 a9, .int .i64 a10, .int .i64 a11, .int .i64 a12], .int .i64 i] w fun e w' => ∃ r : Int, e = .returned (.int .i64 r) ∧ (0 ≤ r ∧ r ≤ 100) ∧ (r = 0 ↔ linkC P (L.take i.toNat) (rd_T39 L i) = true) ∧ Below w.heap.size w w' := by
 have HR0 := am hr0
 have HR1 := am hr1
 have HC0 := am hc0
 have HC1 := am hc1
 have HL := am (show L.length ≤ 1000 ∧ 0 ≤ i ∧ i ≤ (L.length : Int) ∧ i < (L.length : Int) from ⟨hL, hi0, by omega, hi1⟩)
 obtain ⟨ad1, e1, y0, y1, y2, y3, y4, y5⟩ := at_T39 hr1 i hi0 hi1
 subst e1
 obtain ⟨x, hx⟩ : ∃ x, rd_T39 L i = x := ⟨_, rfl⟩
 have p0_ := eq_true hi0
 have p1_ := eq_true hi1
 clear hr0 hr1 hc0 hc1 hL y0 y1 y2 y3 y4 y5
 obtain ⟨a, b, ⟨p0, p1⟩, ⟨q0, q1⟩⟩ := x
 have HX := am hx
 obtain ⟨u1, hu1⟩ : ∃ u, (decide (0 ≤ a) && decide (a < (P.length : Int))) = u := ⟨_, rfl⟩
 obtain ⟨u2, hu2⟩ : ∃ u, (decide (0 ≤ b) && decide (b < (P.length : Int))) = u := ⟨_, rfl⟩
 obtain ⟨s1, hs1⟩ : ∃ u, sideC P (L.take i.toNat) a p0 p1 = u := ⟨_, rfl⟩
 obtain ⟨s2, hs2⟩ : ∃ u, sideC P (L.take i.toNat) b q0 q1 = u := ⟨_, rfl⟩
 have HU1 := am hu1
 have HU2 := am hu2
 have HS1 := am hs1
 have HS2 := am hs2
 clear hx hu1 hu2 hs1 hs2
 go_enter Tryd.func31, Tryd.ntmps31
 go_upto_region 1 with fail
 have HO0 : Aside0 ((w.alloc (.cells #[.slice A0 P.length c0, .slice (some ad1) L.length c1, .int .i64 a2, .int .i64 a3, .int .i64 a4, .int .i64 a5, .int .i64 a6, .int .i64 a7, .int .i64 a8, .int .i64 a9, .int .i64 a10, .int .i64 a11, .int .i64 a12] 25)).heap[w.heap.size]? = some (.cells #[.slice A0 P.length c0, .slice (some ad1) L.length c1, .int .i64 a2, .int .i64 a3, .int .i64 a4, .int .i64 a5, .int .i64 a6, .int .i64 a7, .int .i64 a8, .int .i64 a9, .int .i64 a10, .int .i64 a11, .int .i64 a12] 25)) := ⟨heap_alloc_new _ _⟩
 have HB0 := am (below_alloc (Below.refl w.heap.size w) (Obj.cells #[.slice A0 P.length c0, .slice (some ad1) L.length c1, .int .i64 a2, .int .i64 a3, .int .i64 a4, .int .i64 a5, .int .i64 a6, .int .i64 a7, .int .i64 a8, .int .i64 a9, .int .i64 a10, .int .i64 a11, .int .i64 a12] 25))
 generalize w.alloc (.cells #[.slice A0 P.length c0, .slice (some ad1) L.length c1, .int .i64 a2, .int .i64 a3, .int .i64 a4, .int .i64 a5, .int .i64 a6, .int .i64 a7, .int .i64 a8, .int .i64 a9, .int .i64 a10, .int .i64 a11, .int .i64 a12] 25) = wz at *
 obtain ⟨bx, hbx⟩ : ∃ bx, bx = w.heap.size := ⟨_, rfl⟩
 rw [← hbx]
 rw [← hbx] at HO0
 clear hbx
 obtain ⟨ad', e1, y0, y1, y2, y3, y4, y5⟩ := at_T39 (Kd.C_below HR1.out HB0.out) i HL.out.2.1 HL.out.2.2.2
 have e1' := Option.some.inj e1
 subst e1'
 clear e1
 rw [HX.out] at y0 y1 y2 y3 y4 y5
 dsimp only at y0 y1 y2 y3 y4 y5
 obtain ⟨x0, x1, x2, x3, x4, x5, x6, x7, x8, x9, x10, x11, x12⟩ := cellsK13 HO0.out
 go_upto_region 2 with fail
 have HB1 := am (below_alloc HB0.out (Obj.cells #[.int .i64 a, .int .i64 b, .int .i64 p0, .int .i64 p1, .int .i64 q0, .int .i64 q1] 39))
 have HO1 := am (((below_alloc (Below.refl wz.heap.size wz) (Obj.cells #[.int .i64 a, .int .i64 b, .int .i64 p0, .int .i64 p1, .int .i64 q0, .int .i64 q1] 39)).block bx (blk_lt HO0.out)).trans HO0.out)
 have HLk1 : Aside0 ((wz.alloc (Obj.cells #[.int .i64 a, .int .i64 b, .int .i64 p0, .int .i64 p1, .int .i64 q0, .int .i64 q1] 39)).heap[wz.heap.size]? = some (Obj.cells #[.int .i64 a, .int .i64 b, .int .i64 p0, .int .i64 p1, .int .i64 q0, .int .i64 q1] 39)) := ⟨heap_alloc_new _ _⟩
 clear x0 x1 x2 x3 x4 x5 x6 x7 x8 x9 x10 x11 x12 y0 y1 y2 y3 y4 y5
 generalize wz.alloc (Obj.cells #[.int .i64 a, .int .i64 b, .int .i64 p0, .int .i64 p1, .int .i64 q0, .int .i64 q1] 39) = w1 at *
 generalize wz.heap.size = bl at *
 obtain ⟨x0, x1, x2, x3, x4, x5, x6, x7, x8, x9, x10, x11, x12⟩ := cellsK13 HO1.out
 obtain ⟨l0, l1, l2, l3, l4, l5⟩ := cellsK6 HLk1.out
 go_wp2_with fail
 refine (is_any a (P.length : Int) u1 _ HU1.out).mono ?_
 rintro e w2 ⟨rfl, hb⟩
 clear x0 x1 x2 x3 x4 x5 x6 x7 x8 x9 x10 x11 x12 l0 l1 l2 l3 l4 l5
 have HB2 := am (below_step HB1.out hb)
 have HO2 := am ((hb.block bx (blk_lt HO1.out)).trans HO1.out)
 have HLk2 := am ((hb.block bl (blk_lt HLk1.out)).trans HLk1.out)
 clear hb
 rcases Bool.eq_false_or_eq_true u1 with e_ | e_
 rotate_left
 ·subst e_
  have HN : Aside0 (linkC P (L.take i.toNat) (rd_T39 L i) = false) := ⟨by rw [HX.out]; unfold linkC; simp only [HU1.out, Bool.false_and, Bool.and_false, Bool.not_true]⟩
  obtain ⟨x0, x1, x2, x3, x4, x5, x6, x7, x8, x9, x10, x11, x12⟩ := cellsK13 HO2.out
  obtain ⟨l0, l1, l2, l3, l4, l5⟩ := cellsK6 HLk2.out
  go_wp2_with fail
  go_ret
  exact ⟨_, rfl, ⟨by decide, by decide⟩, ⟨fun h => absurd h (by decide), fun h => by rw [HN.out] at h; cases h⟩, HB2.out⟩
 subst e_
 obtain ⟨x0, x1, x2, x3, x4, x5, x6, x7, x8, x9, x10, x11, x12⟩ := cellsK13 HO2.out
 obtain ⟨l0, l1, l2, l3, l4, l5⟩ := cellsK6 HLk2.out
 go_wp2_with fail
 refine (is_any b (P.length : Int) u2 _ HU2.out).mono ?_
 rintro e w3 ⟨rfl, hb⟩
 clear x0 x1 x2 x3 x4 x5 x6 x7 x8 x9 x10 x11 x12 l0 l1 l2 l3 l4 l5
 have HB3 := am (below_step HB2.out hb)
 have HO3 := am ((hb.block bx (blk_lt HO2.out)).trans HO2.out)
 have HLk3 := am ((hb.block bl (blk_lt HLk2.out)).trans HLk2.out)
 clear hb
 rcases Bool.eq_false_or_eq_true u2 with e_ | e_
 rotate_left
 ·subst e_
  have HN : Aside0 (linkC P (L.take i.toNat) (rd_T39 L i) = false) := ⟨by rw [HX.out]; unfold linkC; simp only [HU1.out, HU2.out, Bool.false_and, Bool.and_false, Bool.not_true]⟩
  obtain ⟨x0, x1, x2, x3, x4, x5, x6, x7, x8, x9, x10, x11, x12⟩ := cellsK13 HO3.out
  obtain ⟨l0, l1, l2, l3, l4, l5⟩ := cellsK6 HLk3.out
  go_wp2_with fail
  go_ret
  exact ⟨_, rfl, ⟨by decide, by decide⟩, ⟨fun h => absurd h (by decide), fun h => by rw [HN.out] at h; cases h⟩, HB3.out⟩
 subst e_
 obtain ⟨g, hg⟩ : ∃ g, decide (b ≤ a) = g := ⟨_, rfl⟩
 have HG := am hg
 rcases Bool.eq_false_or_eq_true g with e_ | e_
 ·subst e_
  have HN : Aside0 (linkC P (L.take i.toNat) (rd_T39 L i) = false) := ⟨by rw [HX.out]; unfold linkC; simp only [HU1.out, HU2.out, HG.out, Bool.false_and, Bool.and_false, Bool.not_true]⟩
  obtain ⟨x0, x1, x2, x3, x4, x5, x6, x7, x8, x9, x10, x11, x12⟩ := cellsK13 HO3.out
  obtain ⟨l0, l1, l2, l3, l4, l5⟩ := cellsK6 HLk3.out
  go_wp2_with fail
  go_ret
  exact ⟨_, rfl, ⟨by decide, by decide⟩, ⟨fun h => absurd h (by decide), fun h => by rw [HN.out] at h; cases h⟩, HB3.out⟩
 subst e_
 obtain ⟨x0, x1, x2, x3, x4, x5, x6, x7, x8, x9, x10, x11, x12⟩ := cellsK13 HO3.out
 obtain ⟨l0, l1, l2, l3, l4, l5⟩ := cellsK6 HLk3.out
 go_wp2_with fail
 clear x0 x1 x2 x3 x4 x5 x6 x7 x8 x9 x10 x11 x12 l0 l1 l2 l3 l4 l5 hg
 go_loopg [6] (L.length + 1) (fun kq v6 w' => ∃ k : Int, v6 = .int .i64 k ∧ Aside0 (kq + k = L.length + 1 ∧ 0 ≤ k ∧ k ≤ i) ∧ Aside0 (Below w.heap.size w w') ∧ Aside0 (w'.heap[bx]? = some (.cells #[.slice A0 P.length c0, .slice (some ad1) L.length c1, .int .i64 a2, .int .i64 a3, .int .i64 a4, .int .i64 a5, .int .i64 a6, .int .i64 a7, .int .i64 a8, .int .i64 a9, .int .i64 a10, .int .i64 a11, .int .i64 a12] 25)) ∧ Aside0 (w'.heap[bl]? = some (.cells #[.int .i64 a, .int .i64 b, .int .i64 p0, .int .i64 p1, .int .i64 q0, .int .i64 q1] 39)) ∧ Aside0 (∀ j : Int, 0 ≤ j → j < k → sameEnds a b (rd_T39 L j) = false))
 case atStart => exact ⟨0, rfl, ⟨by have := HL.out; omega⟩, HB3, HO3, HLk3, ⟨fun j h0 h1 => absurd h1 (by omega)⟩⟩
 case round =>
  clear HB3 HO3 HLk3
  obtain ⟨k, rfl, HK, HB, HO, HLk, HD⟩ := hrel
  by_cases hk : k < i
  ·have hlt : decide (k < i) = true := dT hk
   have hk0 := HK.out.2.1
   have hkL : k < (L.length : Int) := by have := HL.out; omega
   obtain ⟨ad', e1, y0, y1, y2, y3, y4, y5⟩ := at_T39 (Kd.C_below HR1.out HB.out) k hk0 hkL
   have e1' := Option.some.inj e1
   subst e1'
   clear e1
   obtain ⟨xx, hxx⟩ : ∃ xx, rd_T39 L k = xx := ⟨_, rfl⟩
   rw [hxx] at y0 y1
   have HXX := am hxx
   clear hxx y2 y3 y4 y5
   obtain ⟨xa, xb, xp, xq⟩ := xx
   dsimp only at y0 y1
   have k0_ := eq_true hk0
   have k1_ := eq_true hkL
   have hw1 : wrap64 (k + 1) = k + 1 := by have := HL.out; unfold wrap64; omega
   have x1 : wr.cell? ⟨bx, 1, none⟩ = some (.slice (some ad1) L.length c1) := (blk_cell HO.out 1).trans rfl
   have l0 : wr.cell? ⟨bl, 0, none⟩ = some (.int .i64 a) := (blk_cell HLk.out 0).trans rfl
   have l1 : wr.cell? ⟨bl, 1, none⟩ = some (.int .i64 b) := (blk_cell HLk.out 1).trans rfl
   cases gk with
   | zero => exact absurd HK.out (by have := HL.out; omega)
   | succ k1 =>
   cases hxa : (xa == a) with
   | false =>
    have HM : Aside0 (sameEnds a b (rd_T39 L k) = false) := ⟨by rw [HXX.out]; show (xa == a && xb == b) = false; rw [hxa]; rfl⟩
    go_wp2_with fail
    go_quiet (fail)
    go_wp2_with fail
    go_roundg k1
    case measure => have := HK.out; omega
    case rel => exact ⟨k + 1, (by first | rfl | rw [hw1]), ⟨by have := HK.out; have := oT hlt; omega⟩, ⟨pw_below_drewN HB.out _⟩, HO, HLk, ⟨fun j h0 h1 => by
      by_cases hj : j < k
      ·exact HD.out j h0 hj
      ·have : j = k := by omega
       subst this
       exact HM.out⟩⟩
   | true =>
    cases hxb : (xb == b) with
    | false =>
     have HM : Aside0 (sameEnds a b (rd_T39 L k) = false) := ⟨by rw [HXX.out]; show (xa == a && xb == b) = false; rw [hxa, hxb]; rfl⟩
     go_wp2_with fail
     go_quiet (fail)
     go_wp2_with fail
     go_roundg k1
     case measure => have := HK.out; omega
     case rel => exact ⟨k + 1, (by first | rfl | rw [hw1]), ⟨by have := HK.out; have := oT hlt; omega⟩, ⟨pw_below_drewN HB.out _⟩, HO, HLk, ⟨fun j h0 h1 => by
       by_cases hj : j < k
       ·exact HD.out j h0 hj
       ·have : j = k := by omega
        subst this
        exact HM.out⟩⟩
    | true =>
     have HM : Aside0 (sameEnds a b (rd_T39 L k) = true) := ⟨by rw [HXX.out]; show (xa == a && xb == b) = true; rw [hxa, hxb]; rfl⟩
     have HA : Aside0 ((L.take i.toNat).any (sameEnds a b) = true) := ⟨any_hit HM.out hk0 hk HL.out.2.2.1⟩
     have HN : Aside0 (linkC P (L.take i.toNat) (rd_T39 L i) = false) := ⟨by rw [HX.out]; unfold linkC; simp only [HU1.out, HU2.out, HG.out, HA.out, Bool.false_and, Bool.and_false, Bool.not_true]⟩
     go_wp2_with fail
     go_quiet (fail)
     go_wp2_with fail
     go_ret
     exact ⟨_, rfl, ⟨by decide, by decide⟩, ⟨fun h => absurd h (by decide), fun h => by rw [HN.out] at h; cases h⟩, pw_below_drewN HB.out _⟩
  ·have hlt : decide (k < i) = false := dF hk
   have HA : Aside0 ((L.take i.toNat).any (sameEnds a b) = false) := ⟨any_miss (fun j h0 h1 => HD.out j h0 (by omega)) HL.out.2.1 HL.out.2.2.1⟩
   have h1' := HU1.out
   have h2' := HU2.out
   simp only [Bool.and_eq_true, decide_eq_true_eq] at h1' h2'
   have H1' := am h1'
   have H2' := am h2'
   obtain ⟨r1, hr1⟩ : ∃ r, (!s1) = r := ⟨_, rfl⟩
   obtain ⟨r2, hr2⟩ : ∃ r, (!s2) = r := ⟨_, rfl⟩
   have HQ1 := am hr1
   have HQ2 := am hr2
   clear h1' h2' hr1 hr2
   obtain ⟨x0, x1, x2, x3, x4, x5, x6, x7, x8, x9, x10, x11, x12⟩ := cellsK13 HO.out
   obtain ⟨l0, l1, l2, l3, l4, l5⟩ := cellsK6 HLk.out
   go_wp2_with fail
   refine (ends_any A0 c0 P (some ad1) c1 L a2 a3 a4 a5 a6 a7 a8 a9 a10 a11 a12 i a p0 p1 _ (Kd.C_below HR0.out HB.out) HC0.out (Kd.C_below HR1.out HB.out) HC1.out HL.out.1 HL.out.2.1 HL.out.2.2.1 H1'.out.1 H1'.out.2 r1 (by rw [HS1.out]; exact HQ1.out)).mono ?_
   rintro e w5 ⟨rfl, hb⟩
   clear x0 x1 x2 x3 x4 x5 x6 x7 x8 x9 x10 x11 x12 l0 l1 l2 l3 l4 l5
   have HB5 := am (below_step HB.out hb)
   have HO5 := am ((hb.block bx (blk_lt HO.out)).trans HO.out)
   have HLk5 := am ((hb.block bl (blk_lt HLk.out)).trans HLk.out)
   clear hb
   rcases Bool.eq_false_or_eq_true r1 with e_ | e_
   ·subst e_
    have HF : Aside0 (s1 = false) := ⟨by have := HQ1.out; cases s1 <;> simp_all⟩
    have HN : Aside0 (linkC P (L.take i.toNat) (rd_T39 L i) = false) := ⟨by rw [HX.out]; unfold linkC; simp only [HU1.out, HU2.out, HG.out, HA.out, HS1.out, HF.out, Bool.false_and, Bool.and_false]⟩
    obtain ⟨x0, x1, x2, x3, x4, x5, x6, x7, x8, x9, x10, x11, x12⟩ := cellsK13 HO5.out
    obtain ⟨l0, l1, l2, l3, l4, l5⟩ := cellsK6 HLk5.out
    go_wp2_with fail
    go_ret
    exact ⟨_, rfl, ⟨by decide, by decide⟩, ⟨fun h => absurd h (by decide), fun h => by rw [HN.out] at h; cases h⟩, HB5.out⟩
   subst e_
   have HT1 : Aside0 (s1 = true) := ⟨by have := HQ1.out; cases s1 <;> simp_all⟩
   obtain ⟨x0, x1, x2, x3, x4, x5, x6, x7, x8, x9, x10, x11, x12⟩ := cellsK13 HO5.out
   obtain ⟨l0, l1, l2, l3, l4, l5⟩ := cellsK6 HLk5.out
   go_wp2_with fail
   refine (ends_any A0 c0 P (some ad1) c1 L a2 a3 a4 a5 a6 a7 a8 a9 a10 a11 a12 i b q0 q1 _ (Kd.C_below HR0.out HB5.out) HC0.out (Kd.C_below HR1.out HB5.out) HC1.out HL.out.1 HL.out.2.1 HL.out.2.2.1 H2'.out.1 H2'.out.2 r2 (by rw [HS2.out]; exact HQ2.out)).mono ?_
   rintro e w6 ⟨rfl, hb⟩
   clear x0 x1 x2 x3 x4 x5 x6 x7 x8 x9 x10 x11 x12 l0 l1 l2 l3 l4 l5
   have HB6 := am (below_step HB5.out hb)
   have HO6 := am ((hb.block bx (blk_lt HO5.out)).trans HO5.out)
   have HLk6 := am ((hb.block bl (blk_lt HLk5.out)).trans HLk5.out)
   clear hb
   rcases Bool.eq_false_or_eq_true r2 with e_ | e_
   ·subst e_
    have HF : Aside0 (s2 = false) := ⟨by have := HQ2.out; cases s2 <;> simp_all⟩
    have HN : Aside0 (linkC P (L.take i.toNat) (rd_T39 L i) = false) := ⟨by rw [HX.out]; unfold linkC; simp only [HU1.out, HU2.out, HG.out, HA.out, HS2.out, HF.out, Bool.false_and, Bool.and_false]⟩
    obtain ⟨x0, x1, x2, x3, x4, x5, x6, x7, x8, x9, x10, x11, x12⟩ := cellsK13 HO6.out
    obtain ⟨l0, l1, l2, l3, l4, l5⟩ := cellsK6 HLk6.out
    go_wp2_with fail
    go_ret
    exact ⟨_, rfl, ⟨by decide, by decide⟩, ⟨fun h => absurd h (by decide), fun h => by rw [HN.out] at h; cases h⟩, HB6.out⟩
   subst e_
   have HT2 : Aside0 (s2 = true) := ⟨by have := HQ2.out; cases s2 <;> simp_all⟩
   have HY : Aside0 (linkC P (L.take i.toNat) (rd_T39 L i) = true) := ⟨by rw [HX.out]; unfold linkC; simp only [HU1.out, HU2.out, HG.out, HA.out, HS1.out, HS2.out, HT1.out, HT2.out, Bool.not_false, Bool.true_and, Bool.and_true]⟩
   obtain ⟨x0, x1, x2, x3, x4, x5, x6, x7, x8, x9, x10, x11, x12⟩ := cellsK13 HO6.out
   obtain ⟨l0, l1, l2, l3, l4, l5⟩ := cellsK6 HLk6.out
   go_wp2_with fail
   go_ret
   exact ⟨0, rfl, ⟨by decide, by decide⟩, ⟨fun _ => HY.out, fun _ => rfl⟩, HB6.out⟩
set_option linter.unusedVariables false
set_option linter.unusedSimpArgs false
set_option maxHeartbeats 8000000 in
set_option maxRecDepth 10000 in
theorem rcheck_any (A0 : Option Addr) (c0 : Nat) (P : List S43) (A1 : Option Addr) (c1 : Nat) (L : List S39) (a2 a3 a4 a5 a6 a7 a8 a9 a10 a11 a12 : Int) (w : World) (hr0 : Kd.C k43 w A0 P.length P) (hc0 : P.length ≤ c0) (hr1 : Kd.C k39 w A1 L.length L) (hc1 : L.length ≤ c1) (hP : P.length ≤ 1000) (hL : L.length ≤ 1000) :
  Calls Tryd.prog 25 #[.agg #[.slice A0 P.length c0, .slice A1 L.length c1, .int .i64 a2, .int .i64 a3, .int .i64 a4, .int .i64 a5, .int .i64 a6, .int .i64 a7, .int .i64 a8, .int .i64 a9, .int .i64 a10, .int .i64 a11, .int .i64 a12]] w fun e w' => ∃ r m, e = .returned (.tuple #[.int .i64 r, .int .i64 m]) ∧ (r = 0 ↔ netsOk P L) ∧ Below w.heap.size w w' := by
 have HR0 := am hr0
 have HR1 := am hr1
 have HC0 := am hc0
 have HC1 := am hc1
 have HLL := am (And.intro hP hL)
 clear hr0 hr1 hc0 hc1 hP hL
 go_enter Tryd.func25, Tryd.ntmps25
 go_upto_region 1 with fail
 have HO : Aside0 ((w.alloc (.cells #[.slice A0 P.length c0, .slice A1 L.length c1, .int .i64 a2, .int .i64 a3, .int .i64 a4, .int .i64 a5, .int .i64 a6, .int .i64 a7, .int .i64 a8, .int .i64 a9, .int .i64 a10, .int .i64 a11, .int .i64 a12] 25)).heap[w.heap.size]? = some (.cells #[.slice A0 P.length c0, .slice A1 L.length c1, .int .i64 a2, .int .i64 a3, .int .i64 a4, .int .i64 a5, .int .i64 a6, .int .i64 a7, .int .i64 a8, .int .i64 a9, .int .i64 a10, .int .i64 a11, .int .i64 a12] 25)) := ⟨heap_alloc_new _ _⟩
 have HB := am (below_alloc (Below.refl w.heap.size w) (Obj.cells #[.slice A0 P.length c0, .slice A1 L.length c1, .int .i64 a2, .int .i64 a3, .int .i64 a4, .int .i64 a5, .int .i64 a6, .int .i64 a7, .int .i64 a8, .int .i64 a9, .int .i64 a10, .int .i64 a11, .int .i64 a12] 25))
 generalize w.alloc (.cells #[.slice A0 P.length c0, .slice A1 L.length c1, .int .i64 a2, .int .i64 a3, .int .i64 a4, .int .i64 a5, .int .i64 a6, .int .i64 a7, .int .i64 a8, .int .i64 a9, .int .i64 a10, .int .i64 a11, .int .i64 a12] 25) = wa at *
 obtain ⟨bx, hbx⟩ : ∃ bx, bx = w.heap.size := ⟨_, rfl⟩
 rw [← hbx]
 rw [← hbx] at HO
 clear hbx
 have xa0 : wa.cell? ⟨bx, 0, none⟩ = some (.slice A0 P.length c0) := (blk_cell HO.out 0).trans rfl
 by_cases c1_ : (P.length : Int) < 1
 ·have hd1 : decide ((P.length : Int) < 1) = true := dT c1_
  have HN2 : Aside0 (¬ netsOk P L) := ⟨fun h => by have := h.1.1; omega⟩
  go_wp2_with fail
  go_ret2
  first | exact ⟨_, _, rfl, ⟨fun h => absurd h (by decide), fun h => absurd h HN2.out⟩, by repeat (first | exact HB.out | apply below_alloc)⟩ | exact ⟨_, ⟨_, rfl⟩, ⟨fun h => absurd h (by decide), fun h => absurd h HN2.out⟩, by repeat (first | exact HB.out | apply below_alloc)⟩
 have hd1 : decide ((P.length : Int) < 1) = false := dF c1_
 by_cases c6_ : (6 : Int) < P.length
 ·have hd6 : decide ((6 : Int) < (P.length : Int)) = true := dT c6_
  have HN2 : Aside0 (¬ netsOk P L) := ⟨fun h => by have := h.1.2.1; omega⟩
  go_wp2_with fail
  go_ret2
  first | exact ⟨_, _, rfl, ⟨fun h => absurd h (by decide), fun h => absurd h HN2.out⟩, by repeat (first | exact HB.out | apply below_alloc)⟩ | exact ⟨_, ⟨_, rfl⟩, ⟨fun h => absurd h (by decide), fun h => absurd h HN2.out⟩, by repeat (first | exact HB.out | apply below_alloc)⟩
 have hd6 : decide ((6 : Int) < (P.length : Int)) = false := dF c6_
 have HP6 := am (show 1 ≤ P.length ∧ P.length ≤ 6 by omega)
 go_wp2_with fail
 clear xa0 hd1 hd6 c1_ c6_
 go_loopg [4] (P.length + 1) (fun kq v4 w' => ∃ i : Int, v4 = .int .i64 i ∧ Aside0 (kq + i = P.length + 1 ∧ 0 ≤ i) ∧ Aside0 (Below w.heap.size w w') ∧ Aside0 (w'.heap[bx]? = some (.cells #[.slice A0 P.length c0, .slice A1 L.length c1, .int .i64 a2, .int .i64 a3, .int .i64 a4, .int .i64 a5, .int .i64 a6, .int .i64 a7, .int .i64 a8, .int .i64 a9, .int .i64 a10, .int .i64 a11, .int .i64 a12] 25)) ∧ Aside0 (∀ j : Int, 0 ≤ j → j < i → PartOk (rd_T43 P j)))
 case atStart => exact ⟨0, rfl, ⟨by omega⟩, HB, HO, ⟨fun j h0 h1 => absurd h1 (by omega)⟩⟩
 case round =>
  clear HB HO
  obtain ⟨i, rfl, HK, HB, HO, HD⟩ := hrel
  have xa0 : wr.cell? ⟨bx, 0, none⟩ = some (.slice A0 P.length c0) := (blk_cell HO.out 0).trans rfl
  have xa1 : wr.cell? ⟨bx, 1, none⟩ = some (.slice A1 L.length c1) := (blk_cell HO.out 1).trans rfl
  by_cases hi1 : i < (P.length : Int)
  ·have hi0 := HK.out.2
   obtain ⟨ad0, e0, y0, y1⟩ := at_T43 (Kd.C_below HR0.out HB.out) i hi0 hi1
   cases e0
   obtain ⟨n, f, hx⟩ : ∃ n f, rd_T43 P i = ⟨n, f⟩ := ⟨_, _, rfl⟩
   have HX := am hx
   rw [hx] at y0 y1
   clear hx
   dsimp only at y0 y1
   have hlt : decide (i < (P.length : Int)) = true := dT hi1
   have p0_ := eq_true hi0
   have p1_ := eq_true hi1
   have hw1 : wrap64 (i + 1) = i + 1 := by have := HP6.out; unfold wrap64; omega
   have HII := am (And.intro hi0 hi1)
   cases gk with
   | zero => exact absurd HK.out (by omega)
   | succ k1 =>
   by_cases c0 : n < 1
   ·have t0 : decide (n < 1) = true := dT c0
    have HN2 : Aside0 (¬ netsOk P L) := ⟨fun h => by have := h.1.2.2 i HII.out.1 HII.out.2; rw [HX.out] at this; unfold PartOk at this; dsimp only at this; omega⟩
    go_wp2_with fail
    go_ret2
    first | exact ⟨_, _, rfl, ⟨fun h => absurd h (by decide), fun h => absurd h HN2.out⟩, by repeat (first | exact HB.out | apply below_alloc)⟩ | exact ⟨_, ⟨_, rfl⟩, ⟨fun h => absurd h (by decide), fun h => absurd h HN2.out⟩, by repeat (first | exact HB.out | apply below_alloc)⟩
   have t0 : decide (n < 1) = false := dF c0
   by_cases c1 : 12 < n
   ·have t1 : decide (12 < n) = true := dT c1
    have HN2 : Aside0 (¬ netsOk P L) := ⟨fun h => by have := h.1.2.2 i HII.out.1 HII.out.2; rw [HX.out] at this; unfold PartOk at this; dsimp only at this; omega⟩
    go_wp2_with fail
    go_ret2
    first | exact ⟨_, _, rfl, ⟨fun h => absurd h (by decide), fun h => absurd h HN2.out⟩, by repeat (first | exact HB.out | apply below_alloc)⟩ | exact ⟨_, ⟨_, rfl⟩, ⟨fun h => absurd h (by decide), fun h => absurd h HN2.out⟩, by repeat (first | exact HB.out | apply below_alloc)⟩
   have t1 : decide (12 < n) = false := dF c1
   by_cases c2 : f < 0
   ·have t2 : decide (f < 0) = true := dT c2
    have HN2 : Aside0 (¬ netsOk P L) := ⟨fun h => by have := h.1.2.2 i HII.out.1 HII.out.2; rw [HX.out] at this; unfold PartOk at this; dsimp only at this; omega⟩
    go_wp2_with fail
    go_ret2
    first | exact ⟨_, _, rfl, ⟨fun h => absurd h (by decide), fun h => absurd h HN2.out⟩, by repeat (first | exact HB.out | apply below_alloc)⟩ | exact ⟨_, ⟨_, rfl⟩, ⟨fun h => absurd h (by decide), fun h => absurd h HN2.out⟩, by repeat (first | exact HB.out | apply below_alloc)⟩
   have t2 : decide (f < 0) = false := dF c2
   by_cases c3 : 3 < f
   ·have t3 : decide (3 < f) = true := dT c3
    have HN2 : Aside0 (¬ netsOk P L) := ⟨fun h => by have := h.1.2.2 i HII.out.1 HII.out.2; rw [HX.out] at this; unfold PartOk at this; dsimp only at this; omega⟩
    go_wp2_with fail
    go_ret2
    first | exact ⟨_, _, rfl, ⟨fun h => absurd h (by decide), fun h => absurd h HN2.out⟩, by repeat (first | exact HB.out | apply below_alloc)⟩ | exact ⟨_, ⟨_, rfl⟩, ⟨fun h => absurd h (by decide), fun h => absurd h HN2.out⟩, by repeat (first | exact HB.out | apply below_alloc)⟩
   have t3 : decide (3 < f) = false := dF c3
   have t5 : wrap64 (3 * f) = 3 * f := by unfold wrap64; omega
   have t6 : wrap64 (3 * f + 1) = 3 * f + 1 := by unfold wrap64; omega
   by_cases c4 : n < 3 * f + 1
   ·have t7 : decide (n < 3 * f + 1) = true := dT c4
    have HN2 : Aside0 (¬ netsOk P L) := ⟨fun h => by have := h.1.2.2 i HII.out.1 HII.out.2; rw [HX.out] at this; unfold PartOk at this; dsimp only at this; omega⟩
    go_wp2_with fail
    go_ret2
    first | exact ⟨_, _, rfl, ⟨fun h => absurd h (by decide), fun h => absurd h HN2.out⟩, by repeat (first | exact HB.out | apply below_alloc)⟩ | exact ⟨_, ⟨_, rfl⟩, ⟨fun h => absurd h (by decide), fun h => absurd h HN2.out⟩, by repeat (first | exact HB.out | apply below_alloc)⟩
   have t7 : decide (n < 3 * f + 1) = false := dF c4
   have HY : Aside0 (PartOk (rd_T43 P i)) := ⟨by rw [HX.out]; unfold PartOk; dsimp only; omega⟩
   go_wp2_with fail
   go_roundg k1
   case measure => have := HK.out; omega
   case rel => exact ⟨i + 1, (by first | rfl | rw [hw1]), ⟨by have := HK.out; omega⟩, ⟨by repeat (first | exact HB.out | apply below_alloc)⟩, ⟨((below_alloc (Below.refl wr.heap.size wr) _).block bx (blk_lt HO.out)).trans HO.out⟩, ⟨fun j h0 h1 => by
    by_cases hj : j < i
    ·exact HD.out j h0 hj
    ·have : j = i := by omega
     subst this
     exact HY.out⟩⟩
  ·have hlt : decide (i < (P.length : Int)) = false := dF hi1
   have HF : Aside0 (partsOk P) := ⟨HP6.out.1, HP6.out.2, fun j h0 h1 => HD.out j h0 (by omega)⟩
   by_cases c10_ : (10 : Int) < L.length
   ·have hd10 : decide ((10 : Int) < (L.length : Int)) = true := dT c10_
    have HN2 : Aside0 (¬ netsOk P L) := ⟨fun h => by have := h.2.1.1; omega⟩
    go_wp2_with fail
    go_ret2
    first | exact ⟨_, _, rfl, ⟨fun h => absurd h (by decide), fun h => absurd h HN2.out⟩, by repeat (first | exact HB.out | apply below_alloc)⟩ | exact ⟨_, ⟨_, rfl⟩, ⟨fun h => absurd h (by decide), fun h => absurd h HN2.out⟩, by repeat (first | exact HB.out | apply below_alloc)⟩
   have hd10 : decide ((10 : Int) < (L.length : Int)) = false := dF c10_
   have HL10 := am (show L.length ≤ 10 by omega)
   go_wp2_with fail
   clear xa0 xa1 hd10 hlt HD c10_
   go_loopg [6] (L.length + 1) (fun kq v6 w' => ∃ i : Int, v6 = .int .i64 i ∧ Aside0 (kq + i = L.length + 1 ∧ 0 ≤ i) ∧ Aside0 (Below w.heap.size w w') ∧ Aside0 (w'.heap[bx]? = some (.cells #[.slice A0 P.length c0, .slice A1 L.length c1, .int .i64 a2, .int .i64 a3, .int .i64 a4, .int .i64 a5, .int .i64 a6, .int .i64 a7, .int .i64 a8, .int .i64 a9, .int .i64 a10, .int .i64 a11, .int .i64 a12] 25)) ∧ Aside0 (∀ j : Int, 0 ≤ j → j < i → linkC P (L.take j.toNat) (rd_T39 L j) = true))
   case atStart => exact ⟨0, rfl, ⟨by omega⟩, HB, HO, ⟨fun j h0 h1 => absurd h1 (by omega)⟩⟩
   case round =>
    clear HB HO HK hi1
    obtain ⟨i, rfl, HK, HB, HO, HD⟩ := hrel
    obtain ⟨x0, x1, x2, x3, x4, x5, x6, x7, x8, x9, x10, x11, x12⟩ := cellsK13 HO.out
    by_cases hi1 : i < (L.length : Int)
    ·have hi0 := HK.out.2
     have hlt : decide (i < (L.length : Int)) = true := dT hi1
     have hw1 : wrap64 (i + 1) = i + 1 := by have := HL10.out; unfold wrap64; omega
     have HII := am (And.intro hi0 hi1)
     cases gk with
     | zero => exact absurd HK.out (by omega)
     | succ k1 =>
     go_wp2_with fail
     refine (rlink_any A0 c0 P A1 c1 L a2 a3 a4 a5 a6 a7 a8 a9 a10 a11 a12 i _ (Kd.C_below HR0.out HB.out) HC0.out (Kd.C_below HR1.out HB.out) HC1.out (by have := HL10.out; omega) hi0 hi1).mono ?_
     rintro e w2 ⟨r, rfl, hr1, hr2, hb⟩
     have HRr := am hr1
     have HRi := am hr2
     clear hr1 hr2
     clear x0 x1 x2 x3 x4 x5 x6 x7 x8 x9 x10 x11 x12
     have HB2 := am (below_step HB.out hb)
     have HO2 := am ((hb.block bx (blk_lt HO.out)).trans HO.out)
     clear hb
     by_cases hr : r = 0
     ·subst hr
      have HY := am (HRi.out.1 rfl)
      go_wp2_with fail
      go_roundg k1
      case measure => have := HK.out; omega
      case rel => exact ⟨i + 1, (by first | rfl | rw [hw1]), ⟨by have := HK.out; omega⟩, HB2, HO2, ⟨fun j h0 h1 => by
       by_cases hj : j < i
       ·exact HD.out j h0 hj
       ·have : j = i := by omega
        subst this
        exact HY.out⟩⟩
     ·have hr1 : (r == 0) = false := beq_eq_false_iff_ne.mpr hr
      have hr2 : (r != 0) = true := by rw [bne, hr1]; rfl
      have HN2 : Aside0 (¬ netsOk P L) := ⟨fun h => hr (HRi.out.2 (h.2.1.2 i HII.out.1 HII.out.2))⟩
      have hwr : wrap64 r = r := by have := HRr.out; unfold wrap64; omega
      have HNr := am hr
      clear hr
      go_wp2_with fail
      go_ret2
      first | exact ⟨_, _, rfl, ⟨fun h => absurd h (by first | exact HNr.out | (rw [hwr]; exact HNr.out)), fun h => absurd h HN2.out⟩, HB2.out⟩ | exact ⟨_, ⟨_, rfl⟩, ⟨fun h => absurd h (by first | exact HNr.out | (rw [hwr]; exact HNr.out)), fun h => absurd h HN2.out⟩, HB2.out⟩
    ·have hlt : decide (i < (L.length : Int)) = false := dF hi1
     have HLk : Aside0 (linksOk P L) := ⟨HL10.out, fun j h0 h1 => HD.out j h0 (by omega)⟩
     obtain ⟨d, hdd⟩ : ∃ d, Hops.far (ends L) P.length 0 = d := ⟨_, rfl⟩
     have hev := rdists_ev P L a2 a3 a4 a5 a6 a7 a8 a9 a10 a11 a12 0 HP6.out.2 (by have := HL10.out; omega) (links_in HLk.out) (Int.le_refl _) (by have := HP6.out.1; omega)
     rw [show (0 : Int).toNat = 0 from rfl, hdd] at hev
     obtain ⟨k1, hd⟩ := hev.some_
     have HDL : Aside0 (d.length ≤ 6) := ⟨by rw [← hdd, Hops.far_len]; exact HP6.out.2⟩
     have HDD := am hdd
     have HDs := am hd
     clear hd hdd hev
     go_wp2_with fail
     refine (dr5_dists.calls k1 A0 c0 P A1 c1 L a2 a3 a4 a5 a6 a7 a8 a9 a10 a11 a12 0 d _ (Kd.C_below HR0.out HB.out) HC0.out (Kd.C_below HR1.out HB.out) HC1.out HDs.out).mono ?_
     rintro e w4 ⟨v4, rfl, ho4, hb⟩
     obtain ⟨A4, c4, rfl⟩ := Kd.R_slice ho4
     have R4 := am (Kd.R_reads' ho4).2.2
     clear ho4
     clear x0 x1 x2 x3 x4 x5 x6 x7 x8 x9 x10 x11 x12
     have HB4 := am (below_step HB.out hb)
     have HO4 := am ((hb.block bx (blk_lt HO.out)).trans HO.out)
     clear hb
     go_wp2_with fail
     clear hlt
     go_loopg [9] (d.length + 1) (fun kq v9 w' => ∃ i : Int, v9 = .int .i64 i ∧ Aside0 (kq + i = d.length + 1 ∧ 0 ≤ i) ∧ Aside0 (Below w4.heap.size w4 w') ∧ Aside0 (∀ j : Int, 0 ≤ j → j < i → 0 ≤ rd d j))
     case atStart => exact ⟨0, rfl, ⟨by omega⟩, ⟨Below.refl _ _⟩, ⟨fun j h0 h1 => absurd h1 (by omega)⟩⟩
     case round =>
      clear HK hi1 HD
      obtain ⟨i, rfl, HK, HBx, HD⟩ := hrel
      by_cases hi1 : i < (d.length : Int)
      ·have hi0 := HK.out.2
       obtain ⟨ad4, e4, y0⟩ := Kd.at_int (Kd.C_below R4.out HBx.out) i hi0 hi1
       cases e4
       have hlt : decide (i < (d.length : Int)) = true := dT hi1
       have p0_ := eq_true hi0
       have p1_ := eq_true hi1
       have hw1 : wrap64 (i + 1) = i + 1 := by have := HDL.out; unfold wrap64; omega
       cases gk with
       | zero => exact absurd HK.out (by omega)
       | succ k1 =>
       by_cases hn : rd d i < 0
       ·have hge : decide (rd d i < 0) = true := dT hn
        have HN2 : Aside0 (¬ netsOk P L) := ⟨fun h => by
         have hm : rd d i ∈ d := by
          have hlt' : i.toNat < d.length := by omega
          have e : rd d i = d[i.toNat] := by simp [rd, List.getD_eq_getElem?_getD, hlt']
          rw [e]; exact List.getElem_mem hlt'
         have := h.2.2 (rd d i) (by rw [HDD.out]; exact hm)
         omega⟩
        go_wp2_with fail
        go_ret2
        first | exact ⟨_, _, rfl, ⟨fun h => absurd h (by decide), fun h => absurd h HN2.out⟩, below_step HB4.out HBx.out⟩ | exact ⟨_, ⟨_, rfl⟩, ⟨fun h => absurd h (by decide), fun h => absurd h HN2.out⟩, below_step HB4.out HBx.out⟩
       ·have hge : decide (rd d i < 0) = false := dF hn
        have HNn := am hn
        go_wp2_with fail
        go_roundg k1
        case measure => have := HK.out; omega
        case rel => exact ⟨i + 1, (by first | rfl | rw [hw1]), ⟨by have := HK.out; omega⟩, HBx, ⟨fun j h0 h1 => by
         by_cases hj : j < i
         ·exact HD.out j h0 hj
         ·have : j = i := by omega
          subst this
          have := HNn.out
          omega⟩⟩
      ·have hlt : decide (i < (d.length : Int)) = false := dF hi1
       have HOK : Aside0 (netsOk P L) := ⟨HF.out, HLk.out, by
        rw [HDD.out]
        intro x hx
        obtain ⟨q, hq, rfl⟩ := List.getElem_of_mem hx
        have := HD.out (q : Int) (by omega) (by omega)
        simpa [rd, List.getD_eq_getElem?_getD, hq] using this⟩
       go_wp2_with fail
       go_ret2
       first | exact ⟨0, 0, rfl, ⟨fun _ => HOK.out, fun _ => rfl⟩, below_step HB4.out HBx.out⟩ | exact ⟨0, ⟨0, rfl⟩, ⟨fun _ => HOK.out, fun _ => rfl⟩, below_step HB4.out HBx.out⟩
set_option maxHeartbeats 4000000 in
set_option maxRecDepth 4000 in
theorem good_any (A0 : Option Addr) (c0 : Nat) (P : List S43) (A1 : Option Addr) (c1 : Nat) (L : List S39) (a2 a3 a4 a5 a6 a7 a8 a9 a10 a11 a12 : Int) (part : Int) (w : World) (hr0 : Kd.C k43 w A0 P.length P) (hc0 : P.length ≤ c0) (hr1 : Kd.C k39 w A1 L.length L) (hc1 : L.length ≤ c1) (hP : P.length ≤ 1000) (hL : L.length ≤ 1000) :
  Calls Tryd.prog 17 #[.agg #[.slice A0 P.length c0, .slice A1 L.length c1, .int .i64 a2, .int .i64 a3, .int .i64 a4, .int .i64 a5, .int .i64 a6, .int .i64 a7, .int .i64 a8, .int .i64 a9, .int .i64 a10, .int .i64 a11, .int .i64 a12], .int .i64 part] w fun e w' => ∃ r : Bool, e = .returned (.bool r) ∧ (r = true ↔ netsOk P L ∧ 0 ≤ part ∧ part < P.length) ∧ Below w.heap.size w w' := by
 have hc := fun (W : World) (hB : Below w.heap.size w W) => rcheck_any A0 c0 P A1 c1 L a2 a3 a4 a5 a6 a7 a8 a9 a10 a11 a12 W (Kd.C_below hr0 hB) hc0 (Kd.C_below hr1 hB) hc1 hP hL
 have HC := am hc
 obtain ⟨u, hu⟩ : ∃ u, (decide (0 ≤ part) && decide (part < (P.length : Int))) = u := ⟨_, rfl⟩
 have HU := am hu
 have HU2 : Aside0 (u = true ↔ 0 ≤ part ∧ part < P.length) := ⟨by rw [← hu]; simp only [Bool.and_eq_true, decide_eq_true_eq]⟩
 clear hc hr0 hr1 hc0 hc1 hP hL hu
 go_enter Tryd.func17, Tryd.ntmps17
 go_upto_region 1 with fail
 have HO1 : Aside0 ((w.alloc (.cells #[.slice A0 P.length c0, .slice A1 L.length c1, .int .i64 a2, .int .i64 a3, .int .i64 a4, .int .i64 a5, .int .i64 a6, .int .i64 a7, .int .i64 a8, .int .i64 a9, .int .i64 a10, .int .i64 a11, .int .i64 a12] 25)).heap[w.heap.size]? = some (.cells #[.slice A0 P.length c0, .slice A1 L.length c1, .int .i64 a2, .int .i64 a3, .int .i64 a4, .int .i64 a5, .int .i64 a6, .int .i64 a7, .int .i64 a8, .int .i64 a9, .int .i64 a10, .int .i64 a11, .int .i64 a12] 25)) := ⟨heap_alloc_new _ _⟩
 have HB1 := am (below_alloc (Below.refl w.heap.size w) (Obj.cells #[.slice A0 P.length c0, .slice A1 L.length c1, .int .i64 a2, .int .i64 a3, .int .i64 a4, .int .i64 a5, .int .i64 a6, .int .i64 a7, .int .i64 a8, .int .i64 a9, .int .i64 a10, .int .i64 a11, .int .i64 a12] 25))
 generalize w.alloc (.cells #[.slice A0 P.length c0, .slice A1 L.length c1, .int .i64 a2, .int .i64 a3, .int .i64 a4, .int .i64 a5, .int .i64 a6, .int .i64 a7, .int .i64 a8, .int .i64 a9, .int .i64 a10, .int .i64 a11, .int .i64 a12] 25) = w1 at *
 obtain ⟨bx, hbx⟩ : ∃ bx, bx = w.heap.size := ⟨_, rfl⟩
 rw [← hbx]
 rw [← hbx] at HO1
 clear hbx
 obtain ⟨x0, x1, x2, x3, x4, x5, x6, x7, x8, x9, x10, x11, x12⟩ := cellsK13 HO1.out
 go_wp2_with fail
 refine (HC.out _ HB1.out).mono ?_
 rintro e w2 ⟨r, m, rfl, hI, hb⟩
 have HI := am hI
 clear hI
 clear x0 x1 x2 x3 x4 x5 x6 x7 x8 x9 x10 x11 x12
 have HB2 := am (below_step HB1.out hb)
 have HO2 := am ((hb.block bx (blk_lt HO1.out)).trans HO1.out)
 clear hb
 have xa0 : w2.cell? ⟨bx, 0, none⟩ = some (.slice A0 P.length c0) := (blk_cell HO2.out 0).trans rfl
 by_cases hr : r = 0
 ·subst hr
  have HN := am (HI.out.1 rfl)
  go_wp2_with fail
  refine (is_any part (P.length : Int) u _ HU.out).mono ?_
  rintro e w3 ⟨rfl, hb⟩
  have HB3 := am (below_step HB2.out hb)
  clear hb
  go_wp2_with fail
  go_ret
  exact ⟨u, rfl, ⟨fun h => ⟨HN.out, HU2.out.1 h⟩, fun h => HU2.out.2 h.2⟩, HB3.out⟩
 ·have hr1 : (r == 0) = false := beq_eq_false_iff_ne.mpr hr
  have HN := am (show ¬ netsOk P L from fun h => hr (HI.out.2 h))
  clear hr
  go_wp2_with fail
  go_ret
  exact ⟨false, rfl, ⟨fun h => absurd h (by decide), fun h => absurd h.1 HN.out⟩, HB2.out⟩
end Go.Proofs.YtbefbhghmommhaaDoor.MWo
namespace Go.Proofs.YtbefbhghmommhaaDoor.MWo
open Go.RowKit Go.Proofs.YtbefbhghmommhaaDoorW.PrintWords Go.Proofs.YtbefbhghmommhaaDoorW.PrintLast Go.Proofs.YtbefbhghmommhaaDoorW.PrintMore
attribute [local go_sem] mp_u32s mp_u32m mp_u8s mp_u8m max2_int min2_int max_two min_two max_three min_three max_four min_four
set_option linter.unusedVariables false
set_option linter.unusedSimpArgs false
def dr5_Good.f (l0_0 : List S43) (l0_1 : List S39) (a0_2 a0_3 a0_4 a0_5 a0_6 a0_7 a0_8 a0_9 a0_10 a0_11 a0_12 : Int) (a1 : Int) : Option Bool := if l0_0.length ≤ 1000 ∧ l0_1.length ≤ 1000 then some (netsB l0_0 l0_1 && (decide (0 ≤ a1) && decide (a1 < (l0_0.length : Int)))) else none
theorem dr5_Good.calls (A0_0 : Option Addr) (c0_0 : Nat) (l0_0 : List S43) (A0_1 : Option Addr) (c0_1 : Nat) (l0_1 : List S39) (a0_2 a0_3 a0_4 a0_5 a0_6 a0_7 a0_8 a0_9 a0_10 a0_11 a0_12 : Int) (a1 : Int) (r : Bool) (w : World) (hr0_0 : Kd.C k43 w A0_0 l0_0.length l0_0) (hc0_0 : l0_0.length ≤ c0_0) (hr0_1 : Kd.C k39 w A0_1 l0_1.length l0_1) (hc0_1 : l0_1.length ≤ c0_1) (h : dr5_Good.f l0_0 l0_1 a0_2 a0_3 a0_4 a0_5 a0_6 a0_7 a0_8 a0_9 a0_10 a0_11 a0_12 a1 = some r) :
  Calls Tryd.prog 17 #[.agg #[.slice A0_0 l0_0.length c0_0, .slice A0_1 l0_1.length c0_1, .int .i64 a0_2, .int .i64 a0_3, .int .i64 a0_4, .int .i64 a0_5, .int .i64 a0_6, .int .i64 a0_7, .int .i64 a0_8, .int .i64 a0_9, .int .i64 a0_10, .int .i64 a0_11, .int .i64 a0_12], .int .i64 a1] w fun e w' => e = .returned (.bool r) ∧ Below w.heap.size w w' := by
 unfold dr5_Good.f at h
 split at h
 ·rename_i hn
  injection h with h
  subst h
  refine (good_any A0_0 c0_0 l0_0 A0_1 c0_1 l0_1 a0_2 a0_3 a0_4 a0_5 a0_6 a0_7 a0_8 a0_9 a0_10 a0_11 a0_12 a1 w hr0_0 hc0_0 hr0_1 hc0_1 hn.1 hn.2).mono ?_
  rintro e w' ⟨r, rfl, hi, hb⟩
  refine ⟨?_, hb⟩
  have e_ : r = (netsB l0_0 l0_1 && (decide (0 ≤ a1) && decide (a1 < (l0_0.length : Int)))) := by
   rw [Bool.eq_iff_iff, hi, Bool.and_eq_true, Bool.and_eq_true, netsB_iff, decide_eq_true_eq, decide_eq_true_eq]
  rw [e_]
 ·cases h
def dr5_Dist.f (k : Nat) (l0_0 : List (S43)) (l0_1 : List (S39)) (a0_2 : Int) (a0_3 : Int) (a0_4 : Int) (a0_5 : Int) (a0_6 : Int) (a0_7 : Int) (a0_8 : Int) (a0_9 : Int) (a0_10 : Int) (a0_11 : Int) (a0_12 : Int) (a1 : Int) (a2 : Int) : Option (Int) := (dr5_Good.f l0_0 l0_1 a0_2 a0_3 a0_4 a0_5 a0_6 a0_7 a0_8 a0_9 a0_10 a0_11 a0_12 a1).bind fun t182 => (if t182 = true then ((dr5_Good.f l0_0 l0_1 a0_2 a0_3 a0_4 a0_5 a0_6 a0_7 a0_8 a0_9 a0_10 a0_11 a0_12 a2).bind fun t183 => (if t183 = true then ((dr5_dists.f k l0_0 l0_1 a0_2 a0_3 a0_4 a0_5 a0_6 a0_7 a0_8 a0_9 a0_10 a0_11 a0_12 a1).bind fun t184 => (if 0 ≤ a2 then (if a2 < (t184.length : Int) then (some (rd t184 a2)) else (none)) else (none))) else (some (-1)))) else (some (-1)))
set_option maxHeartbeats 8000000 in
set_option maxRecDepth 100000 in
theorem dr5_Dist.calls (k : Nat) (A0_0 : Option Addr) (c0_0 : Nat) (l0_0 : List (S43)) (A0_1 : Option Addr) (c0_1 : Nat) (l0_1 : List (S39)) (a0_2 : Int) (a0_3 : Int) (a0_4 : Int) (a0_5 : Int) (a0_6 : Int) (a0_7 : Int) (a0_8 : Int) (a0_9 : Int) (a0_10 : Int) (a0_11 : Int) (a0_12 : Int) (a1 : Int) (a2 : Int) (r : Int) (w : World) (hr0_0 : Kd.C k43 w A0_0 l0_0.length l0_0) (hc0_0 : l0_0.length ≤ c0_0) (hr0_1 : Kd.C k39 w A0_1 l0_1.length l0_1) (hc0_1 : l0_1.length ≤ c0_1) (h : dr5_Dist.f k l0_0 l0_1 a0_2 a0_3 a0_4 a0_5 a0_6 a0_7 a0_8 a0_9 a0_10 a0_11 a0_12 a1 a2 = some r) :
  Calls Tryd.prog 6 #[.agg #[.slice A0_0 l0_0.length c0_0, .slice A0_1 l0_1.length c0_1, .int .i64 a0_2, .int .i64 a0_3, .int .i64 a0_4, .int .i64 a0_5, .int .i64 a0_6, .int .i64 a0_7, .int .i64 a0_8, .int .i64 a0_9, .int .i64 a0_10, .int .i64 a0_11, .int .i64 a0_12], .int .i64 a1, .int .i64 a2] w fun e w' => e = .returned (.int .i64 r) ∧ Below w.heap.size w w' := by
 have hu25 := Tryd.underlying25
 have HR0_0 := am hr0_0
 have HC0_0 := am hc0_0
 clear hr0_0 hc0_0
 have HR0_1 := am hr0_1
 have HC0_1 := am hc0_1
 clear hr0_1 hc0_1
 have HB := am (Below.refl w.heap.size w)
 have H : ((dr5_Good.f l0_0 l0_1 a0_2 a0_3 a0_4 a0_5 a0_6 a0_7 a0_8 a0_9 a0_10 a0_11 a0_12 a1).bind fun t182 => (if t182 = true then ((dr5_Good.f l0_0 l0_1 a0_2 a0_3 a0_4 a0_5 a0_6 a0_7 a0_8 a0_9 a0_10 a0_11 a0_12 a2).bind fun t183 => (if t183 = true then ((dr5_dists.f k l0_0 l0_1 a0_2 a0_3 a0_4 a0_5 a0_6 a0_7 a0_8 a0_9 a0_10 a0_11 a0_12 a1).bind fun t184 => (if 0 ≤ a2 then (if a2 < (t184.length : Int) then (some (rd t184 a2)) else (none)) else (none))) else (some (-1)))) else (some (-1)))) = some r := h
 clear h
 replace H := bS H
 obtain ⟨t182, A40, H⟩ := H
 replace H : (if t182 = true then ((dr5_Good.f l0_0 l0_1 a0_2 a0_3 a0_4 a0_5 a0_6 a0_7 a0_8 a0_9 a0_10 a0_11 a0_12 a2).bind fun t183 => (if t183 = true then ((dr5_dists.f k l0_0 l0_1 a0_2 a0_3 a0_4 a0_5 a0_6 a0_7 a0_8 a0_9 a0_10 a0_11 a0_12 a1).bind fun t184 => (if 0 ≤ a2 then (if a2 < (t184.length : Int) then (some (rd t184 a2)) else (none)) else (none))) else (some (-1)))) else (some (-1))) = some r := H
 have A4 := am A40
 clear A40
 by_cases c5 : t182 = true
 ·subst c5
  have H1 : ((dr5_Good.f l0_0 l0_1 a0_2 a0_3 a0_4 a0_5 a0_6 a0_7 a0_8 a0_9 a0_10 a0_11 a0_12 a2).bind fun t183 => (if t183 = true then ((dr5_dists.f k l0_0 l0_1 a0_2 a0_3 a0_4 a0_5 a0_6 a0_7 a0_8 a0_9 a0_10 a0_11 a0_12 a1).bind fun t184 => (if 0 ≤ a2 then (if a2 < (t184.length : Int) then (some (rd t184 a2)) else (none)) else (none))) else (some (-1)))) = some r := by rw [if_pos rfl] at H; exact H
  clear H
  have H := H1
  clear H1
  replace H := bS H
  obtain ⟨t183, A60, H⟩ := H
  replace H : (if t183 = true then ((dr5_dists.f k l0_0 l0_1 a0_2 a0_3 a0_4 a0_5 a0_6 a0_7 a0_8 a0_9 a0_10 a0_11 a0_12 a1).bind fun t184 => (if 0 ≤ a2 then (if a2 < (t184.length : Int) then (some (rd t184 a2)) else (none)) else (none))) else (some (-1))) = some r := H
  have A6 := am A60
  clear A60
  by_cases c7 : t183 = true
  ·subst c7
   have H1 : ((dr5_dists.f k l0_0 l0_1 a0_2 a0_3 a0_4 a0_5 a0_6 a0_7 a0_8 a0_9 a0_10 a0_11 a0_12 a1).bind fun t184 => (if 0 ≤ a2 then (if a2 < (t184.length : Int) then (some (rd t184 a2)) else (none)) else (none))) = some r := by rw [if_pos rfl] at H; exact H
   clear H
   have H := H1
   clear H1
   replace H := bS H
   obtain ⟨t184, A80, H⟩ := H
   replace H : (if 0 ≤ a2 then (if a2 < (t184.length : Int) then (some (rd t184 a2)) else (none)) else (none)) = some r := H
   have A8 := am A80
   clear A80
   by_cases c9 : 0 ≤ a2
   ·rw [if_pos c9] at H
    have c9b0 : decide (0 ≤ a2) = true := dT c9
    clear c9
    by_cases c10 : a2 < (t184.length : Int)
    ·rw [if_pos c10] at H
     have c10b0 : decide (a2 < (t184.length : Int)) = true := dT c10
     clear c10
     obtain rfl := Option.some.inj H
     go_enter Tryd.func6, Tryd.ntmps6
     go_wp2_with (first | ((with_reducible refine gate_dst (N := 3) rfl ?_); refine bxe 3 #[.slice A0_0 l0_0.length c0_0, .slice A0_1 l0_1.length c0_1, .int .i64 a0_2, .int .i64 a0_3, .int .i64 a0_4, .int .i64 a0_5, .int .i64 a0_6, .int .i64 a0_7, .int .i64 a0_8, .int .i64 a0_9, .int .i64 a0_10, .int .i64 a0_11, .int .i64 a0_12] 25 ?_; intro gb181 hg w11 hbox hb; have n0_ := am (below_step bl0 hb); have n1_ := am (hbox); have n2_ := am (gw0 hg); have n3_ := am (gw0 hg); clear HB; have HB := n0_; have BK181 := n1_; have GW181 := n2_; have GE181 := n3_; clear n0_ n1_ n2_ n3_; clear hb hbox hg; obtain ⟨hcz12_0, hcz12_1, hcz12_2, hcz12_3, hcz12_4, hcz12_5, hcz12_6, hcz12_7, hcz12_8, hcz12_9, hcz12_10, hcz12_11, hcz12_12⟩ := cellsK13 BK181.out; obtain ⟨hfz12_0, hfz12_1, hfz12_2, hfz12_3, hfz12_4, hfz12_5, hfz12_6, hfz12_7, hfz12_8, hfz12_9, hfz12_10, hfz12_11, hfz12_12⟩ := frozK13 BK181.out) | ((with_reducible refine gate_callee (f := 17) rfl ?_); refine goesL_ (some 9) rfl rfl Tryd.func17 (by kernel_rfl) rfl #[.agg #[.slice A0_0 l0_0.length c0_0, .slice A0_1 l0_1.length c0_1, .int .i64 a0_2, .int .i64 a0_3, .int .i64 a0_4, .int .i64 a0_5, .int .i64 a0_6, .int .i64 a0_7, .int .i64 a0_8, .int .i64 a0_9, .int .i64 a0_10, .int .i64 a0_11, .int .i64 a0_12], .int .i64 a1] rfl lm ?_; (with_reducible refine (dr5_Good.calls _ _ l0_0 _ _ l0_1 a0_2 a0_3 a0_4 a0_5 a0_6 a0_7 a0_8 a0_9 a0_10 a0_11 a0_12 a1 true _ ?side1 ?side2 ?side3 ?side4 A4.out).mono ?_); (case side1 => exact kc HR0_0); (case side2 => exact HC0_0.out); (case side3 => exact kc HR0_1); (case side4 => exact HC0_1.out); rintro e w13 ⟨rfl, hb⟩; refine ⟨_, rfl, ?_⟩; have n0_ := am (blk_below (bk BK181) hb); have n1_ := am (below_step (bl1 GE181) hb); clear BK181; clear HB; have BK181 := n0_; have HB := n1_; clear n0_ n1_; (try clear hb); (try clear hb2); (try clear hk); (try clear hi); obtain ⟨hcz14_0, hcz14_1, hcz14_2, hcz14_3, hcz14_4, hcz14_5, hcz14_6, hcz14_7, hcz14_8, hcz14_9, hcz14_10, hcz14_11, hcz14_12⟩ := cellsK13 BK181.out; obtain ⟨hfz14_0, hfz14_1, hfz14_2, hfz14_3, hfz14_4, hfz14_5, hfz14_6, hfz14_7, hfz14_8, hfz14_9, hfz14_10, hfz14_11, hfz14_12⟩ := frozK13 BK181.out) | (go_at_call 17; (with_reducible refine (dr5_Good.calls _ _ l0_0 _ _ l0_1 a0_2 a0_3 a0_4 a0_5 a0_6 a0_7 a0_8 a0_9 a0_10 a0_11 a0_12 a2 true _ ?side1 ?side2 ?side3 ?side4 A6.out).mono ?_); (case side1 => exact kc HR0_0); (case side2 => exact HC0_0.out); (case side3 => exact kc HR0_1); (case side4 => exact HC0_1.out); rintro e w15 ⟨rfl, hb⟩; have n0_ := am (blk_below (bk BK181) hb); have n1_ := am (below_step (bl1 GE181) hb); clear BK181; clear HB; have BK181 := n0_; have HB := n1_; clear n0_ n1_; (try clear hb); (try clear hb2); (try clear hk); (try clear hi); obtain ⟨hcz16_0, hcz16_1, hcz16_2, hcz16_3, hcz16_4, hcz16_5, hcz16_6, hcz16_7, hcz16_8, hcz16_9, hcz16_10, hcz16_11, hcz16_12⟩ := cellsK13 BK181.out; obtain ⟨hfz16_0, hfz16_1, hfz16_2, hfz16_3, hfz16_4, hfz16_5, hfz16_6, hfz16_7, hfz16_8, hfz16_9, hfz16_10, hfz16_11, hfz16_12⟩ := frozK13 BK181.out) | ((with_reducible refine gate_callee (f := 18) rfl ?_); refine goesL_ (some 19) rfl rfl Tryd.func18 (by kernel_rfl) rfl #[.agg #[.slice A0_0 l0_0.length c0_0, .slice A0_1 l0_1.length c0_1, .int .i64 a0_2, .int .i64 a0_3, .int .i64 a0_4, .int .i64 a0_5, .int .i64 a0_6, .int .i64 a0_7, .int .i64 a0_8, .int .i64 a0_9, .int .i64 a0_10, .int .i64 a0_11, .int .i64 a0_12], .int .i64 a1] rfl lm ?_; (with_reducible refine (dr5_dists.calls k _ _ l0_0 _ _ l0_1 a0_2 a0_3 a0_4 a0_5 a0_6 a0_7 a0_8 a0_9 a0_10 a0_11 a0_12 a1 t184 _ ?side1 ?side2 ?side3 ?side4 A8.out).mono ?_); (case side1 => exact kc HR0_0); (case side2 => exact HC0_0.out); (case side3 => exact kc HR0_1); (case side4 => exact HC0_1.out); rintro e w17 ⟨v185, rfl, ho0, hb⟩; refine ⟨_, rfl, ?_⟩; have n0_ := am (Kd.R_lower ho0 (below_size (bl1 GE181))); have n1_ := am (blk_below (bk BK181) hb); have n2_ := am (below_step (bl1 GE181) hb); clear BK181; clear HB; have HO186 := n0_; have BK181 := n1_; have HB := n2_; clear n0_ n1_ n2_; (try clear hb); (try clear hb2); (try clear hk); (try clear hi); (try clear ho0); obtain ⟨Ao18, co18, eo18⟩ := Kd.R_slice HO186.out; subst eo18; have p187 : 0 ≤ (a2 : Int) := oT asm; have q187 : a2 < (t184.length : Int) := oT asm; obtain ⟨ad187, e187, hx187_0⟩ := Kd.at_int (Kd.R_reads' HO186.out).2.2 a2 p187 q187; cases e187; replace p187 := eq_true p187; replace q187 := eq_true q187))
     go_ret
     exact ⟨ew, bl1 GE181⟩
    ·rw [if_neg c10] at H
     exact absurd H (by simp)
   ·rw [if_neg c9] at H
    exact absurd H (by simp)
  ·replace c7 := Bool.eq_false_iff.mpr c7
   subst c7
   have H1 : (some (-1)) = some r := by rw [if_neg (show ¬ (false = true) by decide)] at H; exact H
   clear H
   have H := H1
   clear H1
   obtain rfl := Option.some.inj H
   go_enter Tryd.func6, Tryd.ntmps6
   go_wp2_with (first | ((with_reducible refine gate_dst (N := 3) rfl ?_); refine bxe 3 #[.slice A0_0 l0_0.length c0_0, .slice A0_1 l0_1.length c0_1, .int .i64 a0_2, .int .i64 a0_3, .int .i64 a0_4, .int .i64 a0_5, .int .i64 a0_6, .int .i64 a0_7, .int .i64 a0_8, .int .i64 a0_9, .int .i64 a0_10, .int .i64 a0_11, .int .i64 a0_12] 25 ?_; intro gb181 hg w19 hbox hb; have n0_ := am (below_step bl0 hb); have n1_ := am (hbox); have n2_ := am (gw0 hg); have n3_ := am (gw0 hg); clear HB; have HB := n0_; have BK181 := n1_; have GW181 := n2_; have GE181 := n3_; clear n0_ n1_ n2_ n3_; clear hb hbox hg; obtain ⟨hcz20_0, hcz20_1, hcz20_2, hcz20_3, hcz20_4, hcz20_5, hcz20_6, hcz20_7, hcz20_8, hcz20_9, hcz20_10, hcz20_11, hcz20_12⟩ := cellsK13 BK181.out; obtain ⟨hfz20_0, hfz20_1, hfz20_2, hfz20_3, hfz20_4, hfz20_5, hfz20_6, hfz20_7, hfz20_8, hfz20_9, hfz20_10, hfz20_11, hfz20_12⟩ := frozK13 BK181.out) | ((with_reducible refine gate_callee (f := 17) rfl ?_); refine goesL_ (some 9) rfl rfl Tryd.func17 (by kernel_rfl) rfl #[.agg #[.slice A0_0 l0_0.length c0_0, .slice A0_1 l0_1.length c0_1, .int .i64 a0_2, .int .i64 a0_3, .int .i64 a0_4, .int .i64 a0_5, .int .i64 a0_6, .int .i64 a0_7, .int .i64 a0_8, .int .i64 a0_9, .int .i64 a0_10, .int .i64 a0_11, .int .i64 a0_12], .int .i64 a1] rfl lm ?_; (with_reducible refine (dr5_Good.calls _ _ l0_0 _ _ l0_1 a0_2 a0_3 a0_4 a0_5 a0_6 a0_7 a0_8 a0_9 a0_10 a0_11 a0_12 a1 true _ ?side1 ?side2 ?side3 ?side4 A4.out).mono ?_); (case side1 => exact kc HR0_0); (case side2 => exact HC0_0.out); (case side3 => exact kc HR0_1); (case side4 => exact HC0_1.out); rintro e w21 ⟨rfl, hb⟩; refine ⟨_, rfl, ?_⟩; have n0_ := am (blk_below (bk BK181) hb); have n1_ := am (below_step (bl1 GE181) hb); clear BK181; clear HB; have BK181 := n0_; have HB := n1_; clear n0_ n1_; (try clear hb); (try clear hb2); (try clear hk); (try clear hi); obtain ⟨hcz22_0, hcz22_1, hcz22_2, hcz22_3, hcz22_4, hcz22_5, hcz22_6, hcz22_7, hcz22_8, hcz22_9, hcz22_10, hcz22_11, hcz22_12⟩ := cellsK13 BK181.out; obtain ⟨hfz22_0, hfz22_1, hfz22_2, hfz22_3, hfz22_4, hfz22_5, hfz22_6, hfz22_7, hfz22_8, hfz22_9, hfz22_10, hfz22_11, hfz22_12⟩ := frozK13 BK181.out) | (go_at_call 17; (with_reducible refine (dr5_Good.calls _ _ l0_0 _ _ l0_1 a0_2 a0_3 a0_4 a0_5 a0_6 a0_7 a0_8 a0_9 a0_10 a0_11 a0_12 a2 false _ ?side1 ?side2 ?side3 ?side4 A6.out).mono ?_); (case side1 => exact kc HR0_0); (case side2 => exact HC0_0.out); (case side3 => exact kc HR0_1); (case side4 => exact HC0_1.out); rintro e w23 ⟨rfl, hb⟩; have n0_ := am (blk_below (bk BK181) hb); have n1_ := am (below_step (bl1 GE181) hb); clear BK181; clear HB; have BK181 := n0_; have HB := n1_; clear n0_ n1_; (try clear hb); (try clear hb2); (try clear hk); (try clear hi)))
   go_ret
   exact ⟨ew, bl1 GE181⟩
 ·replace c5 := Bool.eq_false_iff.mpr c5
  subst c5
  have H1 : (some (-1)) = some r := by rw [if_neg (show ¬ (false = true) by decide)] at H; exact H
  clear H
  have H := H1
  clear H1
  obtain rfl := Option.some.inj H
  go_enter Tryd.func6, Tryd.ntmps6
  go_wp2_with (first | ((with_reducible refine gate_dst (N := 3) rfl ?_); refine bxe 3 #[.slice A0_0 l0_0.length c0_0, .slice A0_1 l0_1.length c0_1, .int .i64 a0_2, .int .i64 a0_3, .int .i64 a0_4, .int .i64 a0_5, .int .i64 a0_6, .int .i64 a0_7, .int .i64 a0_8, .int .i64 a0_9, .int .i64 a0_10, .int .i64 a0_11, .int .i64 a0_12] 25 ?_; intro gb181 hg w24 hbox hb; have n0_ := am (below_step bl0 hb); have n1_ := am (hbox); have n2_ := am (gw0 hg); have n3_ := am (gw0 hg); clear HB; have HB := n0_; have BK181 := n1_; have GW181 := n2_; have GE181 := n3_; clear n0_ n1_ n2_ n3_; clear hb hbox hg; obtain ⟨hcz25_0, hcz25_1, hcz25_2, hcz25_3, hcz25_4, hcz25_5, hcz25_6, hcz25_7, hcz25_8, hcz25_9, hcz25_10, hcz25_11, hcz25_12⟩ := cellsK13 BK181.out; obtain ⟨hfz25_0, hfz25_1, hfz25_2, hfz25_3, hfz25_4, hfz25_5, hfz25_6, hfz25_7, hfz25_8, hfz25_9, hfz25_10, hfz25_11, hfz25_12⟩ := frozK13 BK181.out) | ((with_reducible refine gate_callee (f := 17) rfl ?_); refine goesL_ (some 9) rfl rfl Tryd.func17 (by kernel_rfl) rfl #[.agg #[.slice A0_0 l0_0.length c0_0, .slice A0_1 l0_1.length c0_1, .int .i64 a0_2, .int .i64 a0_3, .int .i64 a0_4, .int .i64 a0_5, .int .i64 a0_6, .int .i64 a0_7, .int .i64 a0_8, .int .i64 a0_9, .int .i64 a0_10, .int .i64 a0_11, .int .i64 a0_12], .int .i64 a1] rfl lm ?_; (with_reducible refine (dr5_Good.calls _ _ l0_0 _ _ l0_1 a0_2 a0_3 a0_4 a0_5 a0_6 a0_7 a0_8 a0_9 a0_10 a0_11 a0_12 a1 false _ ?side1 ?side2 ?side3 ?side4 A4.out).mono ?_); (case side1 => exact kc HR0_0); (case side2 => exact HC0_0.out); (case side3 => exact kc HR0_1); (case side4 => exact HC0_1.out); rintro e w26 ⟨rfl, hb⟩; refine ⟨_, rfl, ?_⟩; have n0_ := am (blk_below (bk BK181) hb); have n1_ := am (below_step (bl1 GE181) hb); clear BK181; clear HB; have BK181 := n0_; have HB := n1_; clear n0_ n1_; (try clear hb); (try clear hb2); (try clear hk); (try clear hi)))
  go_ret
  exact ⟨ew, bl1 GE181⟩
def dr5_other.f (a0_0 : Int) (a0_1 : Int) (a0_2 : Int) (a0_3 : Int) (a0_4 : Int) (a0_5 : Int) (a1 : Int) : Option (Int) := if a0_0 = a1 then (some a0_1) else (if a0_1 = a1 then (some a0_0) else (some (-1)))
set_option maxHeartbeats 8000000 in
set_option maxRecDepth 100000 in
theorem dr5_other.calls (a0_0 : Int) (a0_1 : Int) (a0_2 : Int) (a0_3 : Int) (a0_4 : Int) (a0_5 : Int) (a1 : Int) (r : Int) (w : World) (h : dr5_other.f a0_0 a0_1 a0_2 a0_3 a0_4 a0_5 a1 = some r) :
  Calls Tryd.prog 20 #[.agg #[.int .i64 a0_0, .int .i64 a0_1, .int .i64 a0_2, .int .i64 a0_3, .int .i64 a0_4, .int .i64 a0_5], .int .i64 a1] w fun e w' => e = .returned (.int .i64 r) ∧ Below w.heap.size w w' := by
 have hu39 := Tryd.underlying39
 have HB := am (Below.refl w.heap.size w)
 have H : (if a0_0 = a1 then (some a0_1) else (if a0_1 = a1 then (some a0_0) else (some (-1)))) = some r := h
 clear h
 by_cases c3 : a0_0 = a1
 ·rw [if_pos c3] at H
  have c3b0 : (a0_0 == a1) = true := beq_iff_eq.mpr c3
  have c3b1 : (a0_0 != a1) = false := bne_eq_false_iff_eq.mpr c3
  clear c3
  obtain rfl := Option.some.inj H
  go_enter Tryd.func20, Tryd.ntmps20
  go_wp2_with (first | ((with_reducible refine gate_dst (N := 2) rfl ?_); refine bxe 2 #[.int .i64 a0_0, .int .i64 a0_1, .int .i64 a0_2, .int .i64 a0_3, .int .i64 a0_4, .int .i64 a0_5] 39 ?_; intro gb188 hg w4 hbox hb; have n0_ := am (below_step bl0 hb); have n1_ := am (hbox); have n2_ := am (gw0 hg); have n3_ := am (gw0 hg); clear HB; have HB := n0_; have BK188 := n1_; have GW188 := n2_; have GE188 := n3_; clear n0_ n1_ n2_ n3_; clear hb hbox hg; obtain ⟨hcz5_0, hcz5_1, hcz5_2, hcz5_3, hcz5_4, hcz5_5⟩ := cellsK6 BK188.out; obtain ⟨hfz5_0, hfz5_1, hfz5_2, hfz5_3, hfz5_4, hfz5_5⟩ := frozK6 BK188.out))
  go_ret
  exact ⟨ew, bl1 GE188⟩
 ·rw [if_neg c3] at H
  have c3b0 : (a0_0 == a1) = false := beq_eq_false_iff_ne.mpr c3
  have c3b1 : (a0_0 != a1) = true := bne_iff_ne.mpr c3
  by_cases c6 : a0_1 = a1
  ·rw [if_pos c6] at H
   have c6b0 : (a0_1 == a1) = true := beq_iff_eq.mpr c6
   have c6b1 : (a0_1 != a1) = false := bne_eq_false_iff_eq.mpr c6
   clear c6
   obtain rfl := Option.some.inj H
   go_enter Tryd.func20, Tryd.ntmps20
   go_wp2_with (first | ((with_reducible refine gate_dst (N := 2) rfl ?_); refine bxe 2 #[.int .i64 a0_0, .int .i64 a0_1, .int .i64 a0_2, .int .i64 a0_3, .int .i64 a0_4, .int .i64 a0_5] 39 ?_; intro gb188 hg w7 hbox hb; have n0_ := am (below_step bl0 hb); have n1_ := am (hbox); have n2_ := am (gw0 hg); have n3_ := am (gw0 hg); clear HB; have HB := n0_; have BK188 := n1_; have GW188 := n2_; have GE188 := n3_; clear n0_ n1_ n2_ n3_; clear hb hbox hg; obtain ⟨hcz8_0, hcz8_1, hcz8_2, hcz8_3, hcz8_4, hcz8_5⟩ := cellsK6 BK188.out; obtain ⟨hfz8_0, hfz8_1, hfz8_2, hfz8_3, hfz8_4, hfz8_5⟩ := frozK6 BK188.out))
   go_ret
   exact ⟨ew, bl1 GE188⟩
  ·rw [if_neg c6] at H
   have c6b0 : (a0_1 == a1) = false := beq_eq_false_iff_ne.mpr c6
   have c6b1 : (a0_1 != a1) = true := bne_iff_ne.mpr c6
   obtain rfl := Option.some.inj H
   go_enter Tryd.func20, Tryd.ntmps20
   go_wp2_with (first | ((with_reducible refine gate_dst (N := 2) rfl ?_); refine bxe 2 #[.int .i64 a0_0, .int .i64 a0_1, .int .i64 a0_2, .int .i64 a0_3, .int .i64 a0_4, .int .i64 a0_5] 39 ?_; intro gb188 hg w9 hbox hb; have n0_ := am (below_step bl0 hb); have n1_ := am (hbox); have n2_ := am (gw0 hg); have n3_ := am (gw0 hg); clear HB; have HB := n0_; have BK188 := n1_; have GW188 := n2_; have GE188 := n3_; clear n0_ n1_ n2_ n3_; clear hb hbox hg; obtain ⟨hcz10_0, hcz10_1, hcz10_2, hcz10_3, hcz10_4, hcz10_5⟩ := cellsK6 BK188.out; obtain ⟨hfz10_0, hfz10_1, hfz10_2, hfz10_3, hfz10_4, hfz10_5⟩ := frozK6 BK188.out))
   go_ret
   exact ⟨ew, bl1 GE188⟩
end Go.Proofs.YtbefbhghmommhaaDoor.MWo
