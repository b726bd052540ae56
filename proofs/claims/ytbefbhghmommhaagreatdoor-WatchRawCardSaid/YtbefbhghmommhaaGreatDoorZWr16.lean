/- Texts of this claim, laid together by a program (wip/g/merge5.py): HPr, HPv, MWox67, MWox68, MWox69, MWox70, MWox82, MWox83, MWox84, PuRa. -/
import Derived.Test.YtbefbhghmommhaaGreatDoorZWr15
import Derived.Test.YtbefbhghmommhaaGreatDoorZWr10
import Derived.BigQuiet
import Derived.Test.YtbefbhghmommhaaGreatDoorZWr12
import Derived.Test.YtbefbhghmommhaaGreatDoorZWr4
import Derived.Test.YtbefbhghmommhaaGreatDoorZWr14
import Derived.Test.YtbefbhghmommhaaGreatDoorZWr13
set_option linter.unusedVariables false
set_option linter.unusedSimpArgs false
namespace Go.Proofs.YtbefbhghmommhaaGreatDoor.MWo
open Go.RowKit Go.Proofs.YtbefbhghmommhaaGreatDoorW.PrintWords Go.Proofs.YtbefbhghmommhaaGreatDoorW.PrintLast Go.Proofs.YtbefbhghmommhaaGreatDoorW.PrintMore
set_option maxHeartbeats 8000000 in
set_option maxRecDepth 10000 in
theorem rlink_any (A0 : Option Addr) (c0 : Nat) (P : List S68) (A1 : Option Addr) (c1 : Nat) (L : List S71) (a2 a3 a4 a5 a6 a7 a8 a9 a10 a11 a12 : Int) (i : Int) (w : World) (hr0 : Kd.C k68 w A0 P.length P) (hc0 : P.length ≤ c0) (hr1 : Kd.C k71 w A1 L.length L) (hc1 : L.length ≤ c1) (hL : L.length ≤ 1000) (hi0 : 0 ≤ i) (hi1 : i < L.length) :
  Calls Tryz.prog 82 #[.agg #[.slice A0 P.length c0, .slice A1 L.length c1, .int .i64 a2, .int .i64 a3, .int .i64 a4, .int .i64 a5, .int .i64 a6, .int .i64 a7, .int .i64 a8, .int .i64 a9, .int .i64 a10, .int .i64 a11, .int .i64 a12], .int .i64 i] w fun e w' => ∃ r : Int, e = .returned (.int .i64 r) ∧ (0 ≤ r ∧ r ≤ 100) ∧ (r = 0 ↔ linkC P (L.take i.toNat) (rd_T71 L i) = true) ∧ Below w.heap.size w w' := by
 have HR0 := am hr0
 have HR1 := am hr1
 have HC0 := am hc0
 have HC1 := am hc1
 have HL := am (show L.length ≤ 1000 ∧ 0 ≤ i ∧ i ≤ (L.length : Int) ∧ i < (L.length : Int) from ⟨hL, hi0, by omega, hi1⟩)
 obtain ⟨ad1, e1, y0, y1, y2, y3, y4, y5⟩ := at_T71 hr1 i hi0 hi1
 subst e1
 obtain ⟨x, hx⟩ : ∃ x, rd_T71 L i = x := ⟨_, rfl⟩
 have p0_ := eq_true hi0
 have p1_ := eq_true hi1
 clear hr0 hr1 hc0 hc1 hL y0 y1 y2 y3 y4 y5
 obtain ⟨a, b, ⟨p0, p1⟩, ⟨q0, q1⟩⟩ := x
 have HX := am hx
 obtain ⟨u1, hu1⟩ : ∃ u, (decide (0 ≤ a) && decide (a < (P.length : Int))) = u := ⟨_, rfl⟩
 obtain ⟨u2, hu2⟩ : ∃ u, (decide (0 ≤ b) && decide (b < (P.length : Int))) = u := ⟨_, rfl⟩
 obtain ⟨s1, hs1⟩ : ∃ u, sideC P (L.take i.toNat) a p0 p1 = u := ⟨_, rfl⟩
 obtain ⟨s2, hs2⟩ : ∃ u, sideC P (L.take i.toNat) b q0 q1 = u := ⟨_, rfl⟩
 have HU1 := am hu1
 have HU2 := am hu2
 have HS1 := am hs1
 have HS2 := am hs2
 clear hx hu1 hu2 hs1 hs2
 go_enter Tryz.func82, Tryz.ntmps82
 go_upto_region 1 with fail
 have HO0 : Aside0 ((w.alloc (.cells #[.slice A0 P.length c0, .slice (some ad1) L.length c1, .int .i64 a2, .int .i64 a3, .int .i64 a4, .int .i64 a5, .int .i64 a6, .int .i64 a7, .int .i64 a8, .int .i64 a9, .int .i64 a10, .int .i64 a11, .int .i64 a12] 25)).heap[w.heap.size]? = some (.cells #[.slice A0 P.length c0, .slice (some ad1) L.length c1, .int .i64 a2, .int .i64 a3, .int .i64 a4, .int .i64 a5, .int .i64 a6, .int .i64 a7, .int .i64 a8, .int .i64 a9, .int .i64 a10, .int .i64 a11, .int .i64 a12] 25)) := ⟨heap_alloc_new _ _⟩
 have HB0 := am (below_alloc (Below.refl w.heap.size w) (Obj.cells #[.slice A0 P.length c0, .slice (some ad1) L.length c1, .int .i64 a2, .int .i64 a3, .int .i64 a4, .int .i64 a5, .int .i64 a6, .int .i64 a7, .int .i64 a8, .int .i64 a9, .int .i64 a10, .int .i64 a11, .int .i64 a12] 25))
 generalize w.alloc (.cells #[.slice A0 P.length c0, .slice (some ad1) L.length c1, .int .i64 a2, .int .i64 a3, .int .i64 a4, .int .i64 a5, .int .i64 a6, .int .i64 a7, .int .i64 a8, .int .i64 a9, .int .i64 a10, .int .i64 a11, .int .i64 a12] 25) = wz at *
 obtain ⟨bx, hbx⟩ : ∃ bx, bx = w.heap.size := ⟨_, rfl⟩
 rw [← hbx]
 rw [← hbx] at HO0
 clear hbx
 obtain ⟨ad', e1, y0, y1, y2, y3, y4, y5⟩ := at_T71 (Kd.C_below HR1.out HB0.out) i HL.out.2.1 HL.out.2.2.2
 have e1' := Option.some.inj e1
 subst e1'
 clear e1
 rw [HX.out] at y0 y1 y2 y3 y4 y5
 dsimp only at y0 y1 y2 y3 y4 y5
 obtain ⟨x0, x1, x2, x3, x4, x5, x6, x7, x8, x9, x10, x11, x12⟩ := cellsK13 HO0.out
 go_upto_region 2 with fail
 have HB1 := am (below_alloc HB0.out (Obj.cells #[.int .i64 a, .int .i64 b, .int .i64 p0, .int .i64 p1, .int .i64 q0, .int .i64 q1] 71))
 have HO1 := am (((below_alloc (Below.refl wz.heap.size wz) (Obj.cells #[.int .i64 a, .int .i64 b, .int .i64 p0, .int .i64 p1, .int .i64 q0, .int .i64 q1] 71)).block bx (blk_lt HO0.out)).trans HO0.out)
 have HLk1 : Aside0 ((wz.alloc (Obj.cells #[.int .i64 a, .int .i64 b, .int .i64 p0, .int .i64 p1, .int .i64 q0, .int .i64 q1] 71)).heap[wz.heap.size]? = some (Obj.cells #[.int .i64 a, .int .i64 b, .int .i64 p0, .int .i64 p1, .int .i64 q0, .int .i64 q1] 71)) := ⟨heap_alloc_new _ _⟩
 clear x0 x1 x2 x3 x4 x5 x6 x7 x8 x9 x10 x11 x12 y0 y1 y2 y3 y4 y5
 generalize wz.alloc (Obj.cells #[.int .i64 a, .int .i64 b, .int .i64 p0, .int .i64 p1, .int .i64 q0, .int .i64 q1] 71) = w1 at *
 generalize wz.heap.size = bl at *
 obtain ⟨x0, x1, x2, x3, x4, x5, x6, x7, x8, x9, x10, x11, x12⟩ := cellsK13 HO1.out
 obtain ⟨l0, l1, l2, l3, l4, l5⟩ := cellsK6 HLk1.out
 go_wp2_with fail
 refine (is_any a (P.length : Int) u1 _ HU1.out).mono ?_
 rintro e w2 ⟨rfl, hb⟩
 clear x0 x1 x2 x3 x4 x5 x6 x7 x8 x9 x10 x11 x12 l0 l1 l2 l3 l4 l5
 have HB2 := am (below_step HB1.out hb)
 have HO2 := am ((hb.block bx (blk_lt HO1.out)).trans HO1.out)
 have HLk2 := am ((hb.block bl (blk_lt HLk1.out)).trans HLk1.out)
 clear hb
 rcases Bool.eq_false_or_eq_true u1 with e_ | e_
 rotate_left
 ·subst e_
  have HN : Aside0 (linkC P (L.take i.toNat) (rd_T71 L i) = false) := ⟨by rw [HX.out]; unfold linkC; simp only [HU1.out, Bool.false_and, Bool.and_false, Bool.not_true]⟩
  obtain ⟨x0, x1, x2, x3, x4, x5, x6, x7, x8, x9, x10, x11, x12⟩ := cellsK13 HO2.out
  obtain ⟨l0, l1, l2, l3, l4, l5⟩ := cellsK6 HLk2.out
  go_wp2_with fail
  go_ret
  exact ⟨_, rfl, ⟨by decide, by decide⟩, ⟨fun h => absurd h (by decide), fun h => by rw [HN.out] at h; cases h⟩, HB2.out⟩
 subst e_
 obtain ⟨x0, x1, x2, x3, x4, x5, x6, x7, x8, x9, x10, x11, x12⟩ := cellsK13 HO2.out
 obtain ⟨l0, l1, l2, l3, l4, l5⟩ := cellsK6 HLk2.out
 go_wp2_with fail
 refine (is_any b (P.length : Int) u2 _ HU2.out).mono ?_
 rintro e w3 ⟨rfl, hb⟩
 clear x0 x1 x2 x3 x4 x5 x6 x7 x8 x9 x10 x11 x12 l0 l1 l2 l3 l4 l5
 have HB3 := am (below_step HB2.out hb)
 have HO3 := am ((hb.block bx (blk_lt HO2.out)).trans HO2.out)
 have HLk3 := am ((hb.block bl (blk_lt HLk2.out)).trans HLk2.out)
 clear hb
 rcases Bool.eq_false_or_eq_true u2 with e_ | e_
 rotate_left
 ·subst e_
  have HN : Aside0 (linkC P (L.take i.toNat) (rd_T71 L i) = false) := ⟨by rw [HX.out]; unfold linkC; simp only [HU1.out, HU2.out, Bool.false_and, Bool.and_false, Bool.not_true]⟩
  obtain ⟨x0, x1, x2, x3, x4, x5, x6, x7, x8, x9, x10, x11, x12⟩ := cellsK13 HO3.out
  obtain ⟨l0, l1, l2, l3, l4, l5⟩ := cellsK6 HLk3.out
  go_wp2_with fail
  go_ret
  exact ⟨_, rfl, ⟨by decide, by decide⟩, ⟨fun h => absurd h (by decide), fun h => by rw [HN.out] at h; cases h⟩, HB3.out⟩
 subst e_
 obtain ⟨g, hg⟩ : ∃ g, decide (b ≤ a) = g := ⟨_, rfl⟩
 have HG := am hg
 rcases Bool.eq_false_or_eq_true g with e_ | e_
 ·subst e_
  have HN : Aside0 (linkC P (L.take i.toNat) (rd_T71 L i) = false) := ⟨by rw [HX.out]; unfold linkC; simp only [HU1.out, HU2.out, HG.out, Bool.false_and, Bool.and_false, Bool.not_true]⟩
  obtain ⟨x0, x1, x2, x3, x4, x5, x6, x7, x8, x9, x10, x11, x12⟩ := cellsK13 HO3.out
  obtain ⟨l0, l1, l2, l3, l4, l5⟩ := cellsK6 HLk3.out
  go_wp2_with fail
  go_ret
  exact ⟨_, rfl, ⟨by decide, by decide⟩, ⟨fun h => absurd h (by decide), fun h => by rw [HN.out] at h; cases h⟩, HB3.out⟩
 subst e_
 obtain ⟨x0, x1, x2, x3, x4, x5, x6, x7, x8, x9, x10, x11, x12⟩ := cellsK13 HO3.out
 obtain ⟨l0, l1, l2, l3, l4, l5⟩ := cellsK6 HLk3.out
 go_wp2_with fail
 clear x0 x1 x2 x3 x4 x5 x6 x7 x8 x9 x10 x11 x12 l0 l1 l2 l3 l4 l5 hg
 go_loopg [6] (L.length + 1) (fun kq v6 w' => ∃ k : Int, v6 = .int .i64 k ∧ Aside0 (kq + k = L.length + 1 ∧ 0 ≤ k ∧ k ≤ i) ∧ Aside0 (Below w.heap.size w w') ∧ Aside0 (w'.heap[bx]? = some (.cells #[.slice A0 P.length c0, .slice (some ad1) L.length c1, .int .i64 a2, .int .i64 a3, .int .i64 a4, .int .i64 a5, .int .i64 a6, .int .i64 a7, .int .i64 a8, .int .i64 a9, .int .i64 a10, .int .i64 a11, .int .i64 a12] 25)) ∧ Aside0 (w'.heap[bl]? = some (.cells #[.int .i64 a, .int .i64 b, .int .i64 p0, .int .i64 p1, .int .i64 q0, .int .i64 q1] 71)) ∧ Aside0 (∀ j : Int, 0 ≤ j → j < k → sameEnds a b (rd_T71 L j) = false))
 case atStart => exact ⟨0, rfl, ⟨by have := HL.out; omega⟩, HB3, HO3, HLk3, ⟨fun j h0 h1 => absurd h1 (by omega)⟩⟩
 case round =>
  clear HB3 HO3 HLk3
  obtain ⟨k, rfl, HK, HB, HO, HLk, HD⟩ := hrel
  by_cases hk : k < i
  ·have hlt : decide (k < i) = true := dT hk
   have hk0 := HK.out.2.1
   have hkL : k < (L.length : Int) := by have := HL.out; omega
   obtain ⟨ad', e1, y0, y1, y2, y3, y4, y5⟩ := at_T71 (Kd.C_below HR1.out HB.out) k hk0 hkL
   have e1' := Option.some.inj e1
   subst e1'
   clear e1
   obtain ⟨xx, hxx⟩ : ∃ xx, rd_T71 L k = xx := ⟨_, rfl⟩
   rw [hxx] at y0 y1
   have HXX := am hxx
   clear hxx y2 y3 y4 y5
   obtain ⟨xa, xb, xp, xq⟩ := xx
   dsimp only at y0 y1
   have k0_ := eq_true hk0
   have k1_ := eq_true hkL
   have hw1 : wrap64 (k + 1) = k + 1 := by have := HL.out; unfold wrap64; omega
   have x1 : wr.cell? ⟨bx, 1, none⟩ = some (.slice (some ad1) L.length c1) := (blk_cell HO.out 1).trans rfl
   have l0 : wr.cell? ⟨bl, 0, none⟩ = some (.int .i64 a) := (blk_cell HLk.out 0).trans rfl
   have l1 : wr.cell? ⟨bl, 1, none⟩ = some (.int .i64 b) := (blk_cell HLk.out 1).trans rfl
   cases gk with
   | zero => exact absurd HK.out (by have := HL.out; omega)
   | succ k1 =>
   cases hxa : (xa == a) with
   | false =>
    have HM : Aside0 (sameEnds a b (rd_T71 L k) = false) := ⟨by rw [HXX.out]; show (xa == a && xb == b) = false; rw [hxa]; rfl⟩
    go_wp2_with fail
    go_quiet (fail)
    go_wp2_with fail
    go_roundg k1
    case measure => have := HK.out; omega
    case rel => exact ⟨k + 1, (by first | rfl | rw [hw1]), ⟨by have := HK.out; have := oT hlt; omega⟩, ⟨pw_below_drewN HB.out _⟩, HO, HLk, ⟨fun j h0 h1 => by
      by_cases hj : j < k
      ·exact HD.out j h0 hj
      ·have : j = k := by omega
       subst this
       exact HM.out⟩⟩
   | true =>
    cases hxb : (xb == b) with
    | false =>
     have HM : Aside0 (sameEnds a b (rd_T71 L k) = false) := ⟨by rw [HXX.out]; show (xa == a && xb == b) = false; rw [hxa, hxb]; rfl⟩
     go_wp2_with fail
     go_quiet (fail)
     go_wp2_with fail
     go_roundg k1
     case measure => have := HK.out; omega
     case rel => exact ⟨k + 1, (by first | rfl | rw [hw1]), ⟨by have := HK.out; have := oT hlt; omega⟩, ⟨pw_below_drewN HB.out _⟩, HO, HLk, ⟨fun j h0 h1 => by
       by_cases hj : j < k
       ·exact HD.out j h0 hj
       ·have : j = k := by omega
        subst this
        exact HM.out⟩⟩
    | true =>
     have HM : Aside0 (sameEnds a b (rd_T71 L k) = true) := ⟨by rw [HXX.out]; show (xa == a && xb == b) = true; rw [hxa, hxb]; rfl⟩
     have HA : Aside0 ((L.take i.toNat).any (sameEnds a b) = true) := ⟨any_hit HM.out hk0 hk HL.out.2.2.1⟩
     have HN : Aside0 (linkC P (L.take i.toNat) (rd_T71 L i) = false) := ⟨by rw [HX.out]; unfold linkC; simp only [HU1.out, HU2.out, HG.out, HA.out, Bool.false_and, Bool.and_false, Bool.not_true]⟩
     go_wp2_with fail
     go_quiet (fail)
     go_wp2_with fail
     go_ret
     exact ⟨_, rfl, ⟨by decide, by decide⟩, ⟨fun h => absurd h (by decide), fun h => by rw [HN.out] at h; cases h⟩, pw_below_drewN HB.out _⟩
  ·have hlt : decide (k < i) = false := dF hk
   have HA : Aside0 ((L.take i.toNat).any (sameEnds a b) = false) := ⟨any_miss (fun j h0 h1 => HD.out j h0 (by omega)) HL.out.2.1 HL.out.2.2.1⟩
   have h1' := HU1.out
   have h2' := HU2.out
   simp only [Bool.and_eq_true, decide_eq_true_eq] at h1' h2'
   have H1' := am h1'
   have H2' := am h2'
   obtain ⟨r1, hr1⟩ : ∃ r, (!s1) = r := ⟨_, rfl⟩
   obtain ⟨r2, hr2⟩ : ∃ r, (!s2) = r := ⟨_, rfl⟩
   have HQ1 := am hr1
   have HQ2 := am hr2
   clear h1' h2' hr1 hr2
   obtain ⟨x0, x1, x2, x3, x4, x5, x6, x7, x8, x9, x10, x11, x12⟩ := cellsK13 HO.out
   obtain ⟨l0, l1, l2, l3, l4, l5⟩ := cellsK6 HLk.out
   go_wp2_with fail
   refine (ends_any A0 c0 P (some ad1) c1 L a2 a3 a4 a5 a6 a7 a8 a9 a10 a11 a12 i a p0 p1 _ (Kd.C_below HR0.out HB.out) HC0.out (Kd.C_below HR1.out HB.out) HC1.out HL.out.1 HL.out.2.1 HL.out.2.2.1 H1'.out.1 H1'.out.2 r1 (by rw [HS1.out]; exact HQ1.out)).mono ?_
   rintro e w5 ⟨rfl, hb⟩
   clear x0 x1 x2 x3 x4 x5 x6 x7 x8 x9 x10 x11 x12 l0 l1 l2 l3 l4 l5
   have HB5 := am (below_step HB.out hb)
   have HO5 := am ((hb.block bx (blk_lt HO.out)).trans HO.out)
   have HLk5 := am ((hb.block bl (blk_lt HLk.out)).trans HLk.out)
   clear hb
   rcases Bool.eq_false_or_eq_true r1 with e_ | e_
   ·subst e_
    have HF : Aside0 (s1 = false) := ⟨by have := HQ1.out; cases s1 <;> simp_all⟩
    have HN : Aside0 (linkC P (L.take i.toNat) (rd_T71 L i) = false) := ⟨by rw [HX.out]; unfold linkC; simp only [HU1.out, HU2.out, HG.out, HA.out, HS1.out, HF.out, Bool.false_and, Bool.and_false]⟩
    obtain ⟨x0, x1, x2, x3, x4, x5, x6, x7, x8, x9, x10, x11, x12⟩ := cellsK13 HO5.out
    obtain ⟨l0, l1, l2, l3, l4, l5⟩ := cellsK6 HLk5.out
    go_wp2_with fail
    go_ret
    exact ⟨_, rfl, ⟨by decide, by decide⟩, ⟨fun h => absurd h (by decide), fun h => by rw [HN.out] at h; cases h⟩, HB5.out⟩
   subst e_
   have HT1 : Aside0 (s1 = true) := ⟨by have := HQ1.out; cases s1 <;> simp_all⟩
   obtain ⟨x0, x1, x2, x3, x4, x5, x6, x7, x8, x9, x10, x11, x12⟩ := cellsK13 HO5.out
   obtain ⟨l0, l1, l2, l3, l4, l5⟩ := cellsK6 HLk5.out
   go_wp2_with fail
   refine (ends_any A0 c0 P (some ad1) c1 L a2 a3 a4 a5 a6 a7 a8 a9 a10 a11 a12 i b q0 q1 _ (Kd.C_below HR0.out HB5.out) HC0.out (Kd.C_below HR1.out HB5.out) HC1.out HL.out.1 HL.out.2.1 HL.out.2.2.1 H2'.out.1 H2'.out.2 r2 (by rw [HS2.out]; exact HQ2.out)).mono ?_
   rintro e w6 ⟨rfl, hb⟩
   clear x0 x1 x2 x3 x4 x5 x6 x7 x8 x9 x10 x11 x12 l0 l1 l2 l3 l4 l5
   have HB6 := am (below_step HB5.out hb)
   have HO6 := am ((hb.block bx (blk_lt HO5.out)).trans HO5.out)
   have HLk6 := am ((hb.block bl (blk_lt HLk5.out)).trans HLk5.out)
   clear hb
   rcases Bool.eq_false_or_eq_true r2 with e_ | e_
   ·subst e_
    have HF : Aside0 (s2 = false) := ⟨by have := HQ2.out; cases s2 <;> simp_all⟩
    have HN : Aside0 (linkC P (L.take i.toNat) (rd_T71 L i) = false) := ⟨by rw [HX.out]; unfold linkC; simp only [HU1.out, HU2.out, HG.out, HA.out, HS2.out, HF.out, Bool.false_and, Bool.and_false]⟩
    obtain ⟨x0, x1, x2, x3, x4, x5, x6, x7, x8, x9, x10, x11, x12⟩ := cellsK13 HO6.out
    obtain ⟨l0, l1, l2, l3, l4, l5⟩ := cellsK6 HLk6.out
    go_wp2_with fail
    go_ret
    exact ⟨_, rfl, ⟨by decide, by decide⟩, ⟨fun h => absurd h (by decide), fun h => by rw [HN.out] at h; cases h⟩, HB6.out⟩
   subst e_
   have HT2 : Aside0 (s2 = true) := ⟨by have := HQ2.out; cases s2 <;> simp_all⟩
   have HY : Aside0 (linkC P (L.take i.toNat) (rd_T71 L i) = true) := ⟨by rw [HX.out]; unfold linkC; simp only [HU1.out, HU2.out, HG.out, HA.out, HS1.out, HS2.out, HT1.out, HT2.out, Bool.not_false, Bool.true_and, Bool.and_true]⟩
   obtain ⟨x0, x1, x2, x3, x4, x5, x6, x7, x8, x9, x10, x11, x12⟩ := cellsK13 HO6.out
   obtain ⟨l0, l1, l2, l3, l4, l5⟩ := cellsK6 HLk6.out
   go_wp2_with fail
   go_ret
   exact ⟨0, rfl, ⟨by decide, by decide⟩, ⟨fun _ => HY.out, fun _ => rfl⟩, HB6.out⟩
set_option linter.unusedVariables false
set_option linter.unusedSimpArgs false
set_option maxHeartbeats 8000000 in
set_option maxRecDepth 10000 in
theorem rcheck_any (A0 : Option Addr) (c0 : Nat) (P : List S68) (A1 : Option Addr) (c1 : Nat) (L : List S71) (a2 a3 a4 a5 a6 a7 a8 a9 a10 a11 a12 : Int) (w : World) (hr0 : Kd.C k68 w A0 P.length P) (hc0 : P.length ≤ c0) (hr1 : Kd.C k71 w A1 L.length L) (hc1 : L.length ≤ c1) (hP : P.length ≤ 1000) (hL : L.length ≤ 1000) :
  Calls Tryz.prog 75 #[.agg #[.slice A0 P.length c0, .slice A1 L.length c1, .int .i64 a2, .int .i64 a3, .int .i64 a4, .int .i64 a5, .int .i64 a6, .int .i64 a7, .int .i64 a8, .int .i64 a9, .int .i64 a10, .int .i64 a11, .int .i64 a12]] w fun e w' => ∃ r m, e = .returned (.tuple #[.int .i64 r, .int .i64 m]) ∧ (r = 0 ↔ netsOk P L) ∧ Below w.heap.size w w' := by
 have HR0 := am hr0
 have HR1 := am hr1
 have HC0 := am hc0
 have HC1 := am hc1
 have HLL := am (And.intro hP hL)
 clear hr0 hr1 hc0 hc1 hP hL
 go_enter Tryz.func75, Tryz.ntmps75
 go_upto_region 1 with fail
 have HO : Aside0 ((w.alloc (.cells #[.slice A0 P.length c0, .slice A1 L.length c1, .int .i64 a2, .int .i64 a3, .int .i64 a4, .int .i64 a5, .int .i64 a6, .int .i64 a7, .int .i64 a8, .int .i64 a9, .int .i64 a10, .int .i64 a11, .int .i64 a12] 25)).heap[w.heap.size]? = some (.cells #[.slice A0 P.length c0, .slice A1 L.length c1, .int .i64 a2, .int .i64 a3, .int .i64 a4, .int .i64 a5, .int .i64 a6, .int .i64 a7, .int .i64 a8, .int .i64 a9, .int .i64 a10, .int .i64 a11, .int .i64 a12] 25)) := ⟨heap_alloc_new _ _⟩
 have HB := am (below_alloc (Below.refl w.heap.size w) (Obj.cells #[.slice A0 P.length c0, .slice A1 L.length c1, .int .i64 a2, .int .i64 a3, .int .i64 a4, .int .i64 a5, .int .i64 a6, .int .i64 a7, .int .i64 a8, .int .i64 a9, .int .i64 a10, .int .i64 a11, .int .i64 a12] 25))
 generalize w.alloc (.cells #[.slice A0 P.length c0, .slice A1 L.length c1, .int .i64 a2, .int .i64 a3, .int .i64 a4, .int .i64 a5, .int .i64 a6, .int .i64 a7, .int .i64 a8, .int .i64 a9, .int .i64 a10, .int .i64 a11, .int .i64 a12] 25) = wa at *
 obtain ⟨bx, hbx⟩ : ∃ bx, bx = w.heap.size := ⟨_, rfl⟩
 rw [← hbx]
 rw [← hbx] at HO
 clear hbx
 have xa0 : wa.cell? ⟨bx, 0, none⟩ = some (.slice A0 P.length c0) := (blk_cell HO.out 0).trans rfl
 by_cases c1_ : (P.length : Int) < 1
 ·have hd1 : decide ((P.length : Int) < 1) = true := dT c1_
  have HN2 : Aside0 (¬ netsOk P L) := ⟨fun h => by have := h.1.1; omega⟩
  go_wp2_with fail
  go_ret2
  first | exact ⟨_, _, rfl, ⟨fun h => absurd h (by decide), fun h => absurd h HN2.out⟩, by repeat (first | exact HB.out | apply below_alloc)⟩ | exact ⟨_, ⟨_, rfl⟩, ⟨fun h => absurd h (by decide), fun h => absurd h HN2.out⟩, by repeat (first | exact HB.out | apply below_alloc)⟩
 have hd1 : decide ((P.length : Int) < 1) = false := dF c1_
 by_cases c6_ : (6 : Int) < P.length
 ·have hd6 : decide ((6 : Int) < (P.length : Int)) = true := dT c6_
  have HN2 : Aside0 (¬ netsOk P L) := ⟨fun h => by have := h.1.2.1; omega⟩
  go_wp2_with fail
  go_ret2
  first | exact ⟨_, _, rfl, ⟨fun h => absurd h (by decide), fun h => absurd h HN2.out⟩, by repeat (first | exact HB.out | apply below_alloc)⟩ | exact ⟨_, ⟨_, rfl⟩, ⟨fun h => absurd h (by decide), fun h => absurd h HN2.out⟩, by repeat (first | exact HB.out | apply below_alloc)⟩
 have hd6 : decide ((6 : Int) < (P.length : Int)) = false := dF c6_
 have HP6 := am (show 1 ≤ P.length ∧ P.length ≤ 6 by omega)
 go_wp2_with fail
 clear xa0 hd1 hd6 c1_ c6_
 go_loopg [4] (P.length + 1) (fun kq v4 w' => ∃ i : Int, v4 = .int .i64 i ∧ Aside0 (kq + i = P.length + 1 ∧ 0 ≤ i) ∧ Aside0 (Below w.heap.size w w') ∧ Aside0 (w'.heap[bx]? = some (.cells #[.slice A0 P.length c0, .slice A1 L.length c1, .int .i64 a2, .int .i64 a3, .int .i64 a4, .int .i64 a5, .int .i64 a6, .int .i64 a7, .int .i64 a8, .int .i64 a9, .int .i64 a10, .int .i64 a11, .int .i64 a12] 25)) ∧ Aside0 (∀ j : Int, 0 ≤ j → j < i → PartOk (rd_T68 P j)))
 case atStart => exact ⟨0, rfl, ⟨by omega⟩, HB, HO, ⟨fun j h0 h1 => absurd h1 (by omega)⟩⟩
 case round =>
  clear HB HO
  obtain ⟨i, rfl, HK, HB, HO, HD⟩ := hrel
  have xa0 : wr.cell? ⟨bx, 0, none⟩ = some (.slice A0 P.length c0) := (blk_cell HO.out 0).trans rfl
  have xa1 : wr.cell? ⟨bx, 1, none⟩ = some (.slice A1 L.length c1) := (blk_cell HO.out 1).trans rfl
  by_cases hi1 : i < (P.length : Int)
  ·have hi0 := HK.out.2
   obtain ⟨ad0, e0, y0, y1⟩ := at_T68 (Kd.C_below HR0.out HB.out) i hi0 hi1
   cases e0
   obtain ⟨n, f, hx⟩ : ∃ n f, rd_T68 P i = ⟨n, f⟩ := ⟨_, _, rfl⟩
   have HX := am hx
   rw [hx] at y0 y1
   clear hx
   dsimp only at y0 y1
   have hlt : decide (i < (P.length : Int)) = true := dT hi1
   have p0_ := eq_true hi0
   have p1_ := eq_true hi1
   have hw1 : wrap64 (i + 1) = i + 1 := by have := HP6.out; unfold wrap64; omega
   have HII := am (And.intro hi0 hi1)
   cases gk with
   | zero => exact absurd HK.out (by omega)
   | succ k1 =>
   by_cases c0 : n < 1
   ·have t0 : decide (n < 1) = true := dT c0
    have HN2 : Aside0 (¬ netsOk P L) := ⟨fun h => by have := h.1.2.2 i HII.out.1 HII.out.2; rw [HX.out] at this; unfold PartOk at this; dsimp only at this; omega⟩
    go_wp2_with fail
    go_ret2
    first | exact ⟨_, _, rfl, ⟨fun h => absurd h (by decide), fun h => absurd h HN2.out⟩, by repeat (first | exact HB.out | apply below_alloc)⟩ | exact ⟨_, ⟨_, rfl⟩, ⟨fun h => absurd h (by decide), fun h => absurd h HN2.out⟩, by repeat (first | exact HB.out | apply below_alloc)⟩
   have t0 : decide (n < 1) = false := dF c0
   by_cases c1 : 12 < n
   ·have t1 : decide (12 < n) = true := dT c1
    have HN2 : Aside0 (¬ netsOk P L) := ⟨fun h => by have := h.1.2.2 i HII.out.1 HII.out.2; rw [HX.out] at this; unfold PartOk at this; dsimp only at this; omega⟩
    go_wp2_with fail
    go_ret2
    first | exact ⟨_, _, rfl, ⟨fun h => absurd h (by decide), fun h => absurd h HN2.out⟩, by repeat (first | exact HB.out | apply below_alloc)⟩ | exact ⟨_, ⟨_, rfl⟩, ⟨fun h => absurd h (by decide), fun h => absurd h HN2.out⟩, by repeat (first | exact HB.out | apply below_alloc)⟩
   have t1 : decide (12 < n) = false := dF c1
   by_cases c2 : f < 0
   ·have t2 : decide (f < 0) = true := dT c2
    have HN2 : Aside0 (¬ netsOk P L) := ⟨fun h => by have := h.1.2.2 i HII.out.1 HII.out.2; rw [HX.out] at this; unfold PartOk at this; dsimp only at this; omega⟩
    go_wp2_with fail
    go_ret2
    first | exact ⟨_, _, rfl, ⟨fun h => absurd h (by decide), fun h => absurd h HN2.out⟩, by repeat (first | exact HB.out | apply below_alloc)⟩ | exact ⟨_, ⟨_, rfl⟩, ⟨fun h => absurd h (by decide), fun h => absurd h HN2.out⟩, by repeat (first | exact HB.out | apply below_alloc)⟩
   have t2 : decide (f < 0) = false := dF c2
   by_cases c3 : 3 < f
   ·have t3 : decide (3 < f) = true := dT c3
    have HN2 : Aside0 (¬ netsOk P L) := ⟨fun h => by have := h.1.2.2 i HII.out.1 HII.out.2; rw [HX.out] at this; unfold PartOk at this; dsimp only at this; omega⟩
    go_wp2_with fail
    go_ret2
    first | exact ⟨_, _, rfl, ⟨fun h => absurd h (by decide), fun h => absurd h HN2.out⟩, by repeat (first | exact HB.out | apply below_alloc)⟩ | exact ⟨_, ⟨_, rfl⟩, ⟨fun h => absurd h (by decide), fun h => absurd h HN2.out⟩, by repeat (first | exact HB.out | apply below_alloc)⟩
   have t3 : decide (3 < f) = false := dF c3
   have t5 : wrap64 (3 * f) = 3 * f := by unfold wrap64; omega
   have t6 : wrap64 (3 * f + 1) = 3 * f + 1 := by unfold wrap64; omega
   by_cases c4 : n < 3 * f + 1
   ·have t7 : decide (n < 3 * f + 1) = true := dT c4
    have HN2 : Aside0 (¬ netsOk P L) := ⟨fun h => by have := h.1.2.2 i HII.out.1 HII.out.2; rw [HX.out] at this; unfold PartOk at this; dsimp only at this; omega⟩
    go_wp2_with fail
    go_ret2
    first | exact ⟨_, _, rfl, ⟨fun h => absurd h (by decide), fun h => absurd h HN2.out⟩, by repeat (first | exact HB.out | apply below_alloc)⟩ | exact ⟨_, ⟨_, rfl⟩, ⟨fun h => absurd h (by decide), fun h => absurd h HN2.out⟩, by repeat (first | exact HB.out | apply below_alloc)⟩
   have t7 : decide (n < 3 * f + 1) = false := dF c4
   have HY : Aside0 (PartOk (rd_T68 P i)) := ⟨by rw [HX.out]; unfold PartOk; dsimp only; omega⟩
   go_wp2_with fail
   go_roundg k1
   case measure => have := HK.out; omega
   case rel => exact ⟨i + 1, (by first | rfl | rw [hw1]), ⟨by have := HK.out; omega⟩, ⟨by repeat (first | exact HB.out | apply below_alloc)⟩, ⟨((below_alloc (Below.refl wr.heap.size wr) _).block bx (blk_lt HO.out)).trans HO.out⟩, ⟨fun j h0 h1 => by
    by_cases hj : j < i
    ·exact HD.out j h0 hj
    ·have : j = i := by omega
     subst this
     exact HY.out⟩⟩
  ·have hlt : decide (i < (P.length : Int)) = false := dF hi1
   have HF : Aside0 (partsOk P) := ⟨HP6.out.1, HP6.out.2, fun j h0 h1 => HD.out j h0 (by omega)⟩
   by_cases c10_ : (10 : Int) < L.length
   ·have hd10 : decide ((10 : Int) < (L.length : Int)) = true := dT c10_
    have HN2 : Aside0 (¬ netsOk P L) := ⟨fun h => by have := h.2.1.1; omega⟩
    go_wp2_with fail
    go_ret2
    first | exact ⟨_, _, rfl, ⟨fun h => absurd h (by decide), fun h => absurd h HN2.out⟩, by repeat (first | exact HB.out | apply below_alloc)⟩ | exact ⟨_, ⟨_, rfl⟩, ⟨fun h => absurd h (by decide), fun h => absurd h HN2.out⟩, by repeat (first | exact HB.out | apply below_alloc)⟩
   have hd10 : decide ((10 : Int) < (L.length : Int)) = false := dF c10_
   have HL10 := am (show L.length ≤ 10 by omega)
   go_wp2_with fail
   clear xa0 xa1 hd10 hlt HD c10_
   go_loopg [6] (L.length + 1) (fun kq v6 w' => ∃ i : Int, v6 = .int .i64 i ∧ Aside0 (kq + i = L.length + 1 ∧ 0 ≤ i) ∧ Aside0 (Below w.heap.size w w') ∧ Aside0 (w'.heap[bx]? = some (.cells #[.slice A0 P.length c0, .slice A1 L.length c1, .int .i64 a2, .int .i64 a3, .int .i64 a4, .int .i64 a5, .int .i64 a6, .int .i64 a7, .int .i64 a8, .int .i64 a9, .int .i64 a10, .int .i64 a11, .int .i64 a12] 25)) ∧ Aside0 (∀ j : Int, 0 ≤ j → j < i → linkC P (L.take j.toNat) (rd_T71 L j) = true))
   case atStart => exact ⟨0, rfl, ⟨by omega⟩, HB, HO, ⟨fun j h0 h1 => absurd h1 (by omega)⟩⟩
   case round =>
    clear HB HO HK hi1
    obtain ⟨i, rfl, HK, HB, HO, HD⟩ := hrel
    obtain ⟨x0, x1, x2, x3, x4, x5, x6, x7, x8, x9, x10, x11, x12⟩ := cellsK13 HO.out
    by_cases hi1 : i < (L.length : Int)
    ·have hi0 := HK.out.2
     have hlt : decide (i < (L.length : Int)) = true := dT hi1
     have hw1 : wrap64 (i + 1) = i + 1 := by have := HL10.out; unfold wrap64; omega
     have HII := am (And.intro hi0 hi1)
     cases gk with
     | zero => exact absurd HK.out (by omega)
     | succ k1 =>
     go_wp2_with fail
     refine (rlink_any A0 c0 P A1 c1 L a2 a3 a4 a5 a6 a7 a8 a9 a10 a11 a12 i _ (Kd.C_below HR0.out HB.out) HC0.out (Kd.C_below HR1.out HB.out) HC1.out (by have := HL10.out; omega) hi0 hi1).mono ?_
     rintro e w2 ⟨r, rfl, hr1, hr2, hb⟩
     have HRr := am hr1
     have HRi := am hr2
     clear hr1 hr2
     clear x0 x1 x2 x3 x4 x5 x6 x7 x8 x9 x10 x11 x12
     have HB2 := am (below_step HB.out hb)
     have HO2 := am ((hb.block bx (blk_lt HO.out)).trans HO.out)
     clear hb
     by_cases hr : r = 0
     ·subst hr
      have HY := am (HRi.out.1 rfl)
      go_wp2_with fail
      go_roundg k1
      case measure => have := HK.out; omega
      case rel => exact ⟨i + 1, (by first | rfl | rw [hw1]), ⟨by have := HK.out; omega⟩, HB2, HO2, ⟨fun j h0 h1 => by
       by_cases hj : j < i
       ·exact HD.out j h0 hj
       ·have : j = i := by omega
        subst this
        exact HY.out⟩⟩
     ·have hr1 : (r == 0) = false := beq_eq_false_iff_ne.mpr hr
      have hr2 : (r != 0) = true := by rw [bne, hr1]; rfl
      have HN2 : Aside0 (¬ netsOk P L) := ⟨fun h => hr (HRi.out.2 (h.2.1.2 i HII.out.1 HII.out.2))⟩
      have hwr : wrap64 r = r := by have := HRr.out; unfold wrap64; omega
      have HNr := am hr
      clear hr
      go_wp2_with fail
      go_ret2
      first | exact ⟨_, _, rfl, ⟨fun h => absurd h (by first | exact HNr.out | (rw [hwr]; exact HNr.out)), fun h => absurd h HN2.out⟩, HB2.out⟩ | exact ⟨_, ⟨_, rfl⟩, ⟨fun h => absurd h (by first | exact HNr.out | (rw [hwr]; exact HNr.out)), fun h => absurd h HN2.out⟩, HB2.out⟩
    ·have hlt : decide (i < (L.length : Int)) = false := dF hi1
     have HLk : Aside0 (linksOk P L) := ⟨HL10.out, fun j h0 h1 => HD.out j h0 (by omega)⟩
     obtain ⟨d, hdd⟩ : ∃ d, Hops.far (ends L) P.length 0 = d := ⟨_, rfl⟩
     have hev := rdists_ev P L a2 a3 a4 a5 a6 a7 a8 a9 a10 a11 a12 0 HP6.out.2 (by have := HL10.out; omega) (links_in HLk.out) (Int.le_refl _) (by have := HP6.out.1; omega)
     rw [show (0 : Int).toNat = 0 from rfl, hdd] at hev
     obtain ⟨k1, hd⟩ := hev.some_
     have HDL : Aside0 (d.length ≤ 6) := ⟨by rw [← hdd, Hops.far_len]; exact HP6.out.2⟩
     have HDD := am hdd
     have HDs := am hd
     clear hd hdd hev
     go_wp2_with fail
     refine (dr5_dists.calls k1 A0 c0 P A1 c1 L a2 a3 a4 a5 a6 a7 a8 a9 a10 a11 a12 0 d _ (Kd.C_below HR0.out HB.out) HC0.out (Kd.C_below HR1.out HB.out) HC1.out HDs.out).mono ?_
     rintro e w4 ⟨v4, rfl, ho4, hb⟩
     obtain ⟨A4, c4, rfl⟩ := Kd.R_slice ho4
     have R4 := am (Kd.R_reads' ho4).2.2
     clear ho4
     clear x0 x1 x2 x3 x4 x5 x6 x7 x8 x9 x10 x11 x12
     have HB4 := am (below_step HB.out hb)
     have HO4 := am ((hb.block bx (blk_lt HO.out)).trans HO.out)
     clear hb
     go_wp2_with fail
     clear hlt
     go_loopg [9] (d.length + 1) (fun kq v9 w' => ∃ i : Int, v9 = .int .i64 i ∧ Aside0 (kq + i = d.length + 1 ∧ 0 ≤ i) ∧ Aside0 (Below w4.heap.size w4 w') ∧ Aside0 (∀ j : Int, 0 ≤ j → j < i → 0 ≤ rd d j))
     case atStart => exact ⟨0, rfl, ⟨by omega⟩, ⟨Below.refl _ _⟩, ⟨fun j h0 h1 => absurd h1 (by omega)⟩⟩
     case round =>
      clear HK hi1 HD
      obtain ⟨i, rfl, HK, HBx, HD⟩ := hrel
      by_cases hi1 : i < (d.length : Int)
      ·have hi0 := HK.out.2
       obtain ⟨ad4, e4, y0⟩ := Kd.at_int (Kd.C_below R4.out HBx.out) i hi0 hi1
       cases e4
       have hlt : decide (i < (d.length : Int)) = true := dT hi1
       have p0_ := eq_true hi0
       have p1_ := eq_true hi1
       have hw1 : wrap64 (i + 1) = i + 1 := by have := HDL.out; unfold wrap64; omega
       cases gk with
       | zero => exact absurd HK.out (by omega)
       | succ k1 =>
       by_cases hn : rd d i < 0
       ·have hge : decide (rd d i < 0) = true := dT hn
        have HN2 : Aside0 (¬ netsOk P L) := ⟨fun h => by
         have hm : rd d i ∈ d := by
          have hlt' : i.toNat < d.length := by omega
          have e : rd d i = d[i.toNat] := by simp [rd, List.getD_eq_getElem?_getD, hlt']
          rw [e]; exact List.getElem_mem hlt'
         have := h.2.2 (rd d i) (by rw [HDD.out]; exact hm)
         omega⟩
        go_wp2_with fail
        go_ret2
        first | exact ⟨_, _, rfl, ⟨fun h => absurd h (by decide), fun h => absurd h HN2.out⟩, below_step HB4.out HBx.out⟩ | exact ⟨_, ⟨_, rfl⟩, ⟨fun h => absurd h (by decide), fun h => absurd h HN2.out⟩, below_step HB4.out HBx.out⟩
       ·have hge : decide (rd d i < 0) = false := dF hn
        have HNn := am hn
        go_wp2_with fail
        go_roundg k1
        case measure => have := HK.out; omega
        case rel => exact ⟨i + 1, (by first | rfl | rw [hw1]), ⟨by have := HK.out; omega⟩, HBx, ⟨fun j h0 h1 => by
         by_cases hj : j < i
         ·exact HD.out j h0 hj
         ·have : j = i := by omega
          subst this
          have := HNn.out
          omega⟩⟩
      ·have hlt : decide (i < (d.length : Int)) = false := dF hi1
       have HOK : Aside0 (netsOk P L) := ⟨HF.out, HLk.out, by
        rw [HDD.out]
        intro x hx
        obtain ⟨q, hq, rfl⟩ := List.getElem_of_mem hx
        have := HD.out (q : Int) (by omega) (by omega)
        simpa [rd, List.getD_eq_getElem?_getD, hq] using this⟩
       go_wp2_with fail
       go_ret2
       first | exact ⟨0, 0, rfl, ⟨fun _ => HOK.out, fun _ => rfl⟩, below_step HB4.out HBx.out⟩ | exact ⟨0, ⟨0, rfl⟩, ⟨fun _ => HOK.out, fun _ => rfl⟩, below_step HB4.out HBx.out⟩
set_option maxHeartbeats 4000000 in
set_option maxRecDepth 4000 in
theorem good_any (A0 : Option Addr) (c0 : Nat) (P : List S68) (A1 : Option Addr) (c1 : Nat) (L : List S71) (a2 a3 a4 a5 a6 a7 a8 a9 a10 a11 a12 : Int) (part : Int) (w : World) (hr0 : Kd.C k68 w A0 P.length P) (hc0 : P.length ≤ c0) (hr1 : Kd.C k71 w A1 L.length L) (hc1 : L.length ≤ c1) (hP : P.length ≤ 1000) (hL : L.length ≤ 1000) :
  Calls Tryz.prog 71 #[.agg #[.slice A0 P.length c0, .slice A1 L.length c1, .int .i64 a2, .int .i64 a3, .int .i64 a4, .int .i64 a5, .int .i64 a6, .int .i64 a7, .int .i64 a8, .int .i64 a9, .int .i64 a10, .int .i64 a11, .int .i64 a12], .int .i64 part] w fun e w' => ∃ r : Bool, e = .returned (.bool r) ∧ (r = true ↔ netsOk P L ∧ 0 ≤ part ∧ part < P.length) ∧ Below w.heap.size w w' := by
 have hc := fun (W : World) (hB : Below w.heap.size w W) => rcheck_any A0 c0 P A1 c1 L a2 a3 a4 a5 a6 a7 a8 a9 a10 a11 a12 W (Kd.C_below hr0 hB) hc0 (Kd.C_below hr1 hB) hc1 hP hL
 have HC := am hc
 obtain ⟨u, hu⟩ : ∃ u, (decide (0 ≤ part) && decide (part < (P.length : Int))) = u := ⟨_, rfl⟩
 have HU := am hu
 have HU2 : Aside0 (u = true ↔ 0 ≤ part ∧ part < P.length) := ⟨by rw [← hu]; simp only [Bool.and_eq_true, decide_eq_true_eq]⟩
 clear hc hr0 hr1 hc0 hc1 hP hL hu
 go_enter Tryz.func71, Tryz.ntmps71
 go_upto_region 1 with fail
 have HO1 : Aside0 ((w.alloc (.cells #[.slice A0 P.length c0, .slice A1 L.length c1, .int .i64 a2, .int .i64 a3, .int .i64 a4, .int .i64 a5, .int .i64 a6, .int .i64 a7, .int .i64 a8, .int .i64 a9, .int .i64 a10, .int .i64 a11, .int .i64 a12] 25)).heap[w.heap.size]? = some (.cells #[.slice A0 P.length c0, .slice A1 L.length c1, .int .i64 a2, .int .i64 a3, .int .i64 a4, .int .i64 a5, .int .i64 a6, .int .i64 a7, .int .i64 a8, .int .i64 a9, .int .i64 a10, .int .i64 a11, .int .i64 a12] 25)) := ⟨heap_alloc_new _ _⟩
 have HB1 := am (below_alloc (Below.refl w.heap.size w) (Obj.cells #[.slice A0 P.length c0, .slice A1 L.length c1, .int .i64 a2, .int .i64 a3, .int .i64 a4, .int .i64 a5, .int .i64 a6, .int .i64 a7, .int .i64 a8, .int .i64 a9, .int .i64 a10, .int .i64 a11, .int .i64 a12] 25))
 generalize w.alloc (.cells #[.slice A0 P.length c0, .slice A1 L.length c1, .int .i64 a2, .int .i64 a3, .int .i64 a4, .int .i64 a5, .int .i64 a6, .int .i64 a7, .int .i64 a8, .int .i64 a9, .int .i64 a10, .int .i64 a11, .int .i64 a12] 25) = w1 at *
 obtain ⟨bx, hbx⟩ : ∃ bx, bx = w.heap.size := ⟨_, rfl⟩
 rw [← hbx]
 rw [← hbx] at HO1
 clear hbx
 obtain ⟨x0, x1, x2, x3, x4, x5, x6, x7, x8, x9, x10, x11, x12⟩ := cellsK13 HO1.out
 go_wp2_with fail
 refine (HC.out _ HB1.out).mono ?_
 rintro e w2 ⟨r, m, rfl, hI, hb⟩
 have HI := am hI
 clear hI
 clear x0 x1 x2 x3 x4 x5 x6 x7 x8 x9 x10 x11 x12
 have HB2 := am (below_step HB1.out hb)
 have HO2 := am ((hb.block bx (blk_lt HO1.out)).trans HO1.out)
 clear hb
 have xa0 : w2.cell? ⟨bx, 0, none⟩ = some (.slice A0 P.length c0) := (blk_cell HO2.out 0).trans rfl
 by_cases hr : r = 0
 ·subst hr
  have HN := am (HI.out.1 rfl)
  go_wp2_with fail
  refine (is_any part (P.length : Int) u _ HU.out).mono ?_
  rintro e w3 ⟨rfl, hb⟩
  have HB3 := am (below_step HB2.out hb)
  clear hb
  go_wp2_with fail
  go_ret
  exact ⟨u, rfl, ⟨fun h => ⟨HN.out, HU2.out.1 h⟩, fun h => HU2.out.2 h.2⟩, HB3.out⟩
 ·have hr1 : (r == 0) = false := beq_eq_false_iff_ne.mpr hr
  have HN := am (show ¬ netsOk P L from fun h => hr (HI.out.2 h))
  clear hr
  go_wp2_with fail
  go_ret
  exact ⟨false, rfl, ⟨fun h => absurd h (by decide), fun h => absurd h.1 HN.out⟩, HB2.out⟩
end Go.Proofs.YtbefbhghmommhaaGreatDoor.MWo
namespace Go.Proofs.YtbefbhghmommhaaGreatDoor.MWo
open Go.RowKit Go.Proofs.YtbefbhghmommhaaGreatDoorW.PrintWords Go.Proofs.YtbefbhghmommhaaGreatDoorW.PrintLast Go.Proofs.YtbefbhghmommhaaGreatDoorW.PrintMore
attribute [local go_sem] mp_u32s mp_u32m mp_u8s mp_u8m max2_int min2_int max_two min_two max_three min_three max_four min_four
set_option linter.unusedVariables false
set_option linter.unusedSimpArgs false
def dr5_Good.f (l0_0 : List S68) (l0_1 : List S71) (a0_2 a0_3 a0_4 a0_5 a0_6 a0_7 a0_8 a0_9 a0_10 a0_11 a0_12 : Int) (a1 : Int) : Option Bool := if l0_0.length ≤ 1000 ∧ l0_1.length ≤ 1000 then some (netsB l0_0 l0_1 && (decide (0 ≤ a1) && decide (a1 < (l0_0.length : Int)))) else none
theorem dr5_Good.calls (A0_0 : Option Addr) (c0_0 : Nat) (l0_0 : List S68) (A0_1 : Option Addr) (c0_1 : Nat) (l0_1 : List S71) (a0_2 a0_3 a0_4 a0_5 a0_6 a0_7 a0_8 a0_9 a0_10 a0_11 a0_12 : Int) (a1 : Int) (r : Bool) (w : World) (hr0_0 : Kd.C k68 w A0_0 l0_0.length l0_0) (hc0_0 : l0_0.length ≤ c0_0) (hr0_1 : Kd.C k71 w A0_1 l0_1.length l0_1) (hc0_1 : l0_1.length ≤ c0_1) (h : dr5_Good.f l0_0 l0_1 a0_2 a0_3 a0_4 a0_5 a0_6 a0_7 a0_8 a0_9 a0_10 a0_11 a0_12 a1 = some r) :
  Calls Tryz.prog 71 #[.agg #[.slice A0_0 l0_0.length c0_0, .slice A0_1 l0_1.length c0_1, .int .i64 a0_2, .int .i64 a0_3, .int .i64 a0_4, .int .i64 a0_5, .int .i64 a0_6, .int .i64 a0_7, .int .i64 a0_8, .int .i64 a0_9, .int .i64 a0_10, .int .i64 a0_11, .int .i64 a0_12], .int .i64 a1] w fun e w' => e = .returned (.bool r) ∧ Below w.heap.size w w' := by
 unfold dr5_Good.f at h
 split at h
 ·rename_i hn
  injection h with h
  subst h
  refine (good_any A0_0 c0_0 l0_0 A0_1 c0_1 l0_1 a0_2 a0_3 a0_4 a0_5 a0_6 a0_7 a0_8 a0_9 a0_10 a0_11 a0_12 a1 w hr0_0 hc0_0 hr0_1 hc0_1 hn.1 hn.2).mono ?_
  rintro e w' ⟨r, rfl, hi, hb⟩
  refine ⟨?_, hb⟩
  have e_ : r = (netsB l0_0 l0_1 && (decide (0 ≤ a1) && decide (a1 < (l0_0.length : Int)))) := by
   rw [Bool.eq_iff_iff, hi, Bool.and_eq_true, Bool.and_eq_true, netsB_iff, decide_eq_true_eq, decide_eq_true_eq]
  rw [e_]
 ·cases h
def dr5_out.f (l0_0 : List S68) (l0_1 : List S71) (a0_2 a0_3 a0_4 a0_5 a0_6 a0_7 a0_8 a0_9 a0_10 a0_11 a0_12 : Int) : Option Int := some (outV a0_2 a0_6 a0_7 a0_8 a0_9)
theorem dr5_out.calls (A0_0 : Option Addr) (c0_0 : Nat) (l0_0 : List S68) (A0_1 : Option Addr) (c0_1 : Nat) (l0_1 : List S71) (a0_2 a0_3 a0_4 a0_5 a0_6 a0_7 a0_8 a0_9 a0_10 a0_11 a0_12 : Int) (r : Int) (w : World) (hr0_0 : Kd.C k68 w A0_0 l0_0.length l0_0) (hc0_0 : l0_0.length ≤ c0_0) (hr0_1 : Kd.C k71 w A0_1 l0_1.length l0_1) (hc0_1 : l0_1.length ≤ c0_1) (h : dr5_out.f l0_0 l0_1 a0_2 a0_3 a0_4 a0_5 a0_6 a0_7 a0_8 a0_9 a0_10 a0_11 a0_12 = some r) :
  Calls Tryz.prog 72 #[.agg #[.slice A0_0 l0_0.length c0_0, .slice A0_1 l0_1.length c0_1, .int .i64 a0_2, .int .i64 a0_3, .int .i64 a0_4, .int .i64 a0_5, .int .i64 a0_6, .int .i64 a0_7, .int .i64 a0_8, .int .i64 a0_9, .int .i64 a0_10, .int .i64 a0_11, .int .i64 a0_12]] w fun e w' => e = .returned (.int .i64 r) ∧ Below w.heap.size w w' := by
 obtain rfl := Option.some.inj h
 exact out_any a0_2 a0_3 a0_4 a0_5 a0_6 a0_7 a0_8 a0_9 a0_10 a0_11 a0_12 A0_0 A0_1 _ _ c0_0 c0_1 w
def dr5_ranged.f (l0_0 : List (S68)) (l0_1 : List (S71)) (a0_2 : Int) (a0_3 : Int) (a0_4 : Int) (a0_5 : Int) (a0_6 : Int) (a0_7 : Int) (a0_8 : Int) (a0_9 : Int) (a0_10 : Int) (a0_11 : Int) (a0_12 : Int) : Option (Bool) := (dr5_Good.f l0_0 l0_1 a0_2 a0_3 a0_4 a0_5 a0_6 a0_7 a0_8 a0_9 a0_10 a0_11 a0_12 0).bind fun t217 => (if t217 = true then ((dr5_out.f l0_0 l0_1 a0_2 a0_3 a0_4 a0_5 a0_6 a0_7 a0_8 a0_9 a0_10 a0_11 a0_12).bind fun t218 => (some (t218 == 0))) else (some false))
set_option maxHeartbeats 8000000 in
set_option maxRecDepth 100000 in
theorem dr5_ranged.calls (A0_0 : Option Addr) (c0_0 : Nat) (l0_0 : List (S68)) (A0_1 : Option Addr) (c0_1 : Nat) (l0_1 : List (S71)) (a0_2 : Int) (a0_3 : Int) (a0_4 : Int) (a0_5 : Int) (a0_6 : Int) (a0_7 : Int) (a0_8 : Int) (a0_9 : Int) (a0_10 : Int) (a0_11 : Int) (a0_12 : Int) (r : Bool) (w : World) (hr0_0 : Kd.C k68 w A0_0 l0_0.length l0_0) (hc0_0 : l0_0.length ≤ c0_0) (hr0_1 : Kd.C k71 w A0_1 l0_1.length l0_1) (hc0_1 : l0_1.length ≤ c0_1) (h : dr5_ranged.f l0_0 l0_1 a0_2 a0_3 a0_4 a0_5 a0_6 a0_7 a0_8 a0_9 a0_10 a0_11 a0_12 = some r) :
  Calls Tryz.prog 55 #[.agg #[.slice A0_0 l0_0.length c0_0, .slice A0_1 l0_1.length c0_1, .int .i64 a0_2, .int .i64 a0_3, .int .i64 a0_4, .int .i64 a0_5, .int .i64 a0_6, .int .i64 a0_7, .int .i64 a0_8, .int .i64 a0_9, .int .i64 a0_10, .int .i64 a0_11, .int .i64 a0_12]] w fun e w' => e = .returned (.bool r) ∧ Below w.heap.size w w' := by
 have hu25 := Tryz.underlying25
 have HR0_0 := am hr0_0
 have HC0_0 := am hc0_0
 clear hr0_0 hc0_0
 have HR0_1 := am hr0_1
 have HC0_1 := am hc0_1
 clear hr0_1 hc0_1
 have HB := am (Below.refl w.heap.size w)
 have H : ((dr5_Good.f l0_0 l0_1 a0_2 a0_3 a0_4 a0_5 a0_6 a0_7 a0_8 a0_9 a0_10 a0_11 a0_12 0).bind fun t217 => (if t217 = true then ((dr5_out.f l0_0 l0_1 a0_2 a0_3 a0_4 a0_5 a0_6 a0_7 a0_8 a0_9 a0_10 a0_11 a0_12).bind fun t218 => (some (t218 == 0))) else (some false))) = some r := h
 clear h
 replace H := bS H
 obtain ⟨t217, A20, H⟩ := H
 replace H : (if t217 = true then ((dr5_out.f l0_0 l0_1 a0_2 a0_3 a0_4 a0_5 a0_6 a0_7 a0_8 a0_9 a0_10 a0_11 a0_12).bind fun t218 => (some (t218 == 0))) else (some false)) = some r := H
 have A2 := am A20
 clear A20
 by_cases c3 : t217 = true
 ·subst c3
  have H1 : ((dr5_out.f l0_0 l0_1 a0_2 a0_3 a0_4 a0_5 a0_6 a0_7 a0_8 a0_9 a0_10 a0_11 a0_12).bind fun t218 => (some (t218 == 0))) = some r := by rw [if_pos rfl] at H; exact H
  clear H
  have H := H1
  clear H1
  replace H := bS H
  obtain ⟨t218, A40, H⟩ := H
  replace H : (some (t218 == 0)) = some r := H
  have A4 := am A40
  clear A40
  obtain rfl := Option.some.inj H
  go_enter Tryz.func55, Tryz.ntmps55
  go_wp2_with (first | ((with_reducible refine gate_dst (N := 1) rfl ?_); refine bxe 1 #[.slice A0_0 l0_0.length c0_0, .slice A0_1 l0_1.length c0_1, .int .i64 a0_2, .int .i64 a0_3, .int .i64 a0_4, .int .i64 a0_5, .int .i64 a0_6, .int .i64 a0_7, .int .i64 a0_8, .int .i64 a0_9, .int .i64 a0_10, .int .i64 a0_11, .int .i64 a0_12] 25 ?_; intro gb216 hg w5 hbox hb; have n0_ := am (below_step bl0 hb); have n1_ := am (hbox); have n2_ := am (gw0 hg); have n3_ := am (gw0 hg); clear HB; have HB := n0_; have BK216 := n1_; have GW216 := n2_; have GE216 := n3_; clear n0_ n1_ n2_ n3_; clear hb hbox hg; obtain ⟨hcz6_0, hcz6_1, hcz6_2, hcz6_3, hcz6_4, hcz6_5, hcz6_6, hcz6_7, hcz6_8, hcz6_9, hcz6_10, hcz6_11, hcz6_12⟩ := cellsK13 BK216.out; obtain ⟨hfz6_0, hfz6_1, hfz6_2, hfz6_3, hfz6_4, hfz6_5, hfz6_6, hfz6_7, hfz6_8, hfz6_9, hfz6_10, hfz6_11, hfz6_12⟩ := frozK13 BK216.out) | ((with_reducible refine gate_callee (f := 71) rfl ?_); refine goesL_ (some 4) rfl rfl Tryz.func71 (by kernel_rfl) rfl #[.agg #[.slice A0_0 l0_0.length c0_0, .slice A0_1 l0_1.length c0_1, .int .i64 a0_2, .int .i64 a0_3, .int .i64 a0_4, .int .i64 a0_5, .int .i64 a0_6, .int .i64 a0_7, .int .i64 a0_8, .int .i64 a0_9, .int .i64 a0_10, .int .i64 a0_11, .int .i64 a0_12], .int .i64 0] rfl lm ?_; (with_reducible refine (dr5_Good.calls _ _ l0_0 _ _ l0_1 a0_2 a0_3 a0_4 a0_5 a0_6 a0_7 a0_8 a0_9 a0_10 a0_11 a0_12 0 true _ ?side1 ?side2 ?side3 ?side4 A2.out).mono ?_); (case side1 => exact kc HR0_0); (case side2 => exact HC0_0.out); (case side3 => exact kc HR0_1); (case side4 => exact HC0_1.out); rintro e w7 ⟨rfl, hb⟩; refine ⟨_, rfl, ?_⟩; have n0_ := am (blk_below (bk BK216) hb); have n1_ := am (below_step (bl1 GE216) hb); clear BK216; clear HB; have BK216 := n0_; have HB := n1_; clear n0_ n1_; (try clear hb); (try clear hb2); (try clear hk); (try clear hi); obtain ⟨hcz8_0, hcz8_1, hcz8_2, hcz8_3, hcz8_4, hcz8_5, hcz8_6, hcz8_7, hcz8_8, hcz8_9, hcz8_10, hcz8_11, hcz8_12⟩ := cellsK13 BK216.out; obtain ⟨hfz8_0, hfz8_1, hfz8_2, hfz8_3, hfz8_4, hfz8_5, hfz8_6, hfz8_7, hfz8_8, hfz8_9, hfz8_10, hfz8_11, hfz8_12⟩ := frozK13 BK216.out) | (go_at_call 72; (with_reducible refine (dr5_out.calls _ _ l0_0 _ _ l0_1 a0_2 a0_3 a0_4 a0_5 a0_6 a0_7 a0_8 a0_9 a0_10 a0_11 a0_12 t218 _ ?side1 ?side2 ?side3 ?side4 A4.out).mono ?_); (case side1 => exact kc HR0_0); (case side2 => exact HC0_0.out); (case side3 => exact kc HR0_1); (case side4 => exact HC0_1.out); rintro e w9 ⟨rfl, hb⟩; have n0_ := am (blk_below (bk BK216) hb); have n1_ := am (below_step (bl1 GE216) hb); clear BK216; clear HB; have BK216 := n0_; have HB := n1_; clear n0_ n1_; (try clear hb); (try clear hb2); (try clear hk); (try clear hi)))
  go_ret
  exact ⟨ew, bl1 GE216⟩
 ·replace c3 := Bool.eq_false_iff.mpr c3
  subst c3
  have H1 : (some false) = some r := by rw [if_neg (show ¬ (false = true) by decide)] at H; exact H
  clear H
  have H := H1
  clear H1
  obtain rfl := Option.some.inj H
  go_enter Tryz.func55, Tryz.ntmps55
  go_wp2_with (first | ((with_reducible refine gate_dst (N := 1) rfl ?_); refine bxe 1 #[.slice A0_0 l0_0.length c0_0, .slice A0_1 l0_1.length c0_1, .int .i64 a0_2, .int .i64 a0_3, .int .i64 a0_4, .int .i64 a0_5, .int .i64 a0_6, .int .i64 a0_7, .int .i64 a0_8, .int .i64 a0_9, .int .i64 a0_10, .int .i64 a0_11, .int .i64 a0_12] 25 ?_; intro gb216 hg w10 hbox hb; have n0_ := am (below_step bl0 hb); have n1_ := am (hbox); have n2_ := am (gw0 hg); have n3_ := am (gw0 hg); clear HB; have HB := n0_; have BK216 := n1_; have GW216 := n2_; have GE216 := n3_; clear n0_ n1_ n2_ n3_; clear hb hbox hg; obtain ⟨hcz11_0, hcz11_1, hcz11_2, hcz11_3, hcz11_4, hcz11_5, hcz11_6, hcz11_7, hcz11_8, hcz11_9, hcz11_10, hcz11_11, hcz11_12⟩ := cellsK13 BK216.out; obtain ⟨hfz11_0, hfz11_1, hfz11_2, hfz11_3, hfz11_4, hfz11_5, hfz11_6, hfz11_7, hfz11_8, hfz11_9, hfz11_10, hfz11_11, hfz11_12⟩ := frozK13 BK216.out) | ((with_reducible refine gate_callee (f := 71) rfl ?_); refine goesL_ (some 4) rfl rfl Tryz.func71 (by kernel_rfl) rfl #[.agg #[.slice A0_0 l0_0.length c0_0, .slice A0_1 l0_1.length c0_1, .int .i64 a0_2, .int .i64 a0_3, .int .i64 a0_4, .int .i64 a0_5, .int .i64 a0_6, .int .i64 a0_7, .int .i64 a0_8, .int .i64 a0_9, .int .i64 a0_10, .int .i64 a0_11, .int .i64 a0_12], .int .i64 0] rfl lm ?_; (with_reducible refine (dr5_Good.calls _ _ l0_0 _ _ l0_1 a0_2 a0_3 a0_4 a0_5 a0_6 a0_7 a0_8 a0_9 a0_10 a0_11 a0_12 0 false _ ?side1 ?side2 ?side3 ?side4 A2.out).mono ?_); (case side1 => exact kc HR0_0); (case side2 => exact HC0_0.out); (case side3 => exact kc HR0_1); (case side4 => exact HC0_1.out); rintro e w12 ⟨rfl, hb⟩; refine ⟨_, rfl, ?_⟩; have n0_ := am (blk_below (bk BK216) hb); have n1_ := am (below_step (bl1 GE216) hb); clear BK216; clear HB; have BK216 := n0_; have HB := n1_; clear n0_ n1_; (try clear hb); (try clear hb2); (try clear hk); (try clear hi)))
  go_ret
  exact ⟨ew, bl1 GE216⟩
def dr5_Gone.f (l0_0 : List (S68)) (l0_1 : List (S71)) (a0_2 : Int) (a0_3 : Int) (a0_4 : Int) (a0_5 : Int) (a0_6 : Int) (a0_7 : Int) (a0_8 : Int) (a0_9 : Int) (a0_10 : Int) (a0_11 : Int) (a0_12 : Int) : Option (Int) := (dr5_ranged.f l0_0 l0_1 a0_2 a0_3 a0_4 a0_5 a0_6 a0_7 a0_8 a0_9 a0_10 a0_11 a0_12).bind fun t220 => (if t220 = true then (some (wrap64 (a0_8 + 1))) else (some 0))
set_option maxHeartbeats 8000000 in
set_option maxRecDepth 100000 in
theorem dr5_Gone.calls (A0_0 : Option Addr) (c0_0 : Nat) (l0_0 : List (S68)) (A0_1 : Option Addr) (c0_1 : Nat) (l0_1 : List (S71)) (a0_2 : Int) (a0_3 : Int) (a0_4 : Int) (a0_5 : Int) (a0_6 : Int) (a0_7 : Int) (a0_8 : Int) (a0_9 : Int) (a0_10 : Int) (a0_11 : Int) (a0_12 : Int) (r : Int) (w : World) (hr0_0 : Kd.C k68 w A0_0 l0_0.length l0_0) (hc0_0 : l0_0.length ≤ c0_0) (hr0_1 : Kd.C k71 w A0_1 l0_1.length l0_1) (hc0_1 : l0_1.length ≤ c0_1) (h : dr5_Gone.f l0_0 l0_1 a0_2 a0_3 a0_4 a0_5 a0_6 a0_7 a0_8 a0_9 a0_10 a0_11 a0_12 = some r) :
  Calls Tryz.prog 30 #[.agg #[.slice A0_0 l0_0.length c0_0, .slice A0_1 l0_1.length c0_1, .int .i64 a0_2, .int .i64 a0_3, .int .i64 a0_4, .int .i64 a0_5, .int .i64 a0_6, .int .i64 a0_7, .int .i64 a0_8, .int .i64 a0_9, .int .i64 a0_10, .int .i64 a0_11, .int .i64 a0_12]] w fun e w' => e = .returned (.int .i64 r) ∧ Below w.heap.size w w' := by
 have hu25 := Tryz.underlying25
 have HR0_0 := am hr0_0
 have HC0_0 := am hc0_0
 clear hr0_0 hc0_0
 have HR0_1 := am hr0_1
 have HC0_1 := am hc0_1
 clear hr0_1 hc0_1
 have HB := am (Below.refl w.heap.size w)
 have H : ((dr5_ranged.f l0_0 l0_1 a0_2 a0_3 a0_4 a0_5 a0_6 a0_7 a0_8 a0_9 a0_10 a0_11 a0_12).bind fun t220 => (if t220 = true then (some (wrap64 (a0_8 + 1))) else (some 0))) = some r := h
 clear h
 replace H := bS H
 obtain ⟨t220, A20, H⟩ := H
 replace H : (if t220 = true then (some (wrap64 (a0_8 + 1))) else (some 0)) = some r := H
 have A2 := am A20
 clear A20
 by_cases c3 : t220 = true
 ·subst c3
  have H1 : (some (wrap64 (a0_8 + 1))) = some r := by rw [if_pos rfl] at H; exact H
  clear H
  have H := H1
  clear H1
  obtain rfl := Option.some.inj H
  go_enter Tryz.func30, Tryz.ntmps30
  go_wp2_with (first | ((with_reducible refine gate_dst (N := 1) rfl ?_); refine bxe 1 #[.slice A0_0 l0_0.length c0_0, .slice A0_1 l0_1.length c0_1, .int .i64 a0_2, .int .i64 a0_3, .int .i64 a0_4, .int .i64 a0_5, .int .i64 a0_6, .int .i64 a0_7, .int .i64 a0_8, .int .i64 a0_9, .int .i64 a0_10, .int .i64 a0_11, .int .i64 a0_12] 25 ?_; intro gb219 hg w4 hbox hb; have n0_ := am (below_step bl0 hb); have n1_ := am (hbox); have n2_ := am (gw0 hg); have n3_ := am (gw0 hg); clear HB; have HB := n0_; have BK219 := n1_; have GW219 := n2_; have GE219 := n3_; clear n0_ n1_ n2_ n3_; clear hb hbox hg; obtain ⟨hcz5_0, hcz5_1, hcz5_2, hcz5_3, hcz5_4, hcz5_5, hcz5_6, hcz5_7, hcz5_8, hcz5_9, hcz5_10, hcz5_11, hcz5_12⟩ := cellsK13 BK219.out; obtain ⟨hfz5_0, hfz5_1, hfz5_2, hfz5_3, hfz5_4, hfz5_5, hfz5_6, hfz5_7, hfz5_8, hfz5_9, hfz5_10, hfz5_11, hfz5_12⟩ := frozK13 BK219.out) | ((with_reducible refine gate_callee (f := 55) rfl ?_); refine goesL_ (some 4) rfl rfl Tryz.func55 (by kernel_rfl) rfl #[.agg #[.slice A0_0 l0_0.length c0_0, .slice A0_1 l0_1.length c0_1, .int .i64 a0_2, .int .i64 a0_3, .int .i64 a0_4, .int .i64 a0_5, .int .i64 a0_6, .int .i64 a0_7, .int .i64 a0_8, .int .i64 a0_9, .int .i64 a0_10, .int .i64 a0_11, .int .i64 a0_12]] rfl lm ?_; (with_reducible refine (dr5_ranged.calls _ _ l0_0 _ _ l0_1 a0_2 a0_3 a0_4 a0_5 a0_6 a0_7 a0_8 a0_9 a0_10 a0_11 a0_12 true _ ?side1 ?side2 ?side3 ?side4 A2.out).mono ?_); (case side1 => exact kc HR0_0); (case side2 => exact HC0_0.out); (case side3 => exact kc HR0_1); (case side4 => exact HC0_1.out); rintro e w6 ⟨rfl, hb⟩; refine ⟨_, rfl, ?_⟩; have n0_ := am (blk_below (bk BK219) hb); have n1_ := am (below_step (bl1 GE219) hb); clear BK219; clear HB; have BK219 := n0_; have HB := n1_; clear n0_ n1_; (try clear hb); (try clear hb2); (try clear hk); (try clear hi); obtain ⟨hcz7_0, hcz7_1, hcz7_2, hcz7_3, hcz7_4, hcz7_5, hcz7_6, hcz7_7, hcz7_8, hcz7_9, hcz7_10, hcz7_11, hcz7_12⟩ := cellsK13 BK219.out; obtain ⟨hfz7_0, hfz7_1, hfz7_2, hfz7_3, hfz7_4, hfz7_5, hfz7_6, hfz7_7, hfz7_8, hfz7_9, hfz7_10, hfz7_11, hfz7_12⟩ := frozK13 BK219.out))
  go_ret
  exact ⟨ew, bl1 GE219⟩
 ·replace c3 := Bool.eq_false_iff.mpr c3
  subst c3
  have H1 : (some 0) = some r := by rw [if_neg (show ¬ (false = true) by decide)] at H; exact H
  clear H
  have H := H1
  clear H1
  obtain rfl := Option.some.inj H
  go_enter Tryz.func30, Tryz.ntmps30
  go_wp2_with (first | ((with_reducible refine gate_dst (N := 1) rfl ?_); refine bxe 1 #[.slice A0_0 l0_0.length c0_0, .slice A0_1 l0_1.length c0_1, .int .i64 a0_2, .int .i64 a0_3, .int .i64 a0_4, .int .i64 a0_5, .int .i64 a0_6, .int .i64 a0_7, .int .i64 a0_8, .int .i64 a0_9, .int .i64 a0_10, .int .i64 a0_11, .int .i64 a0_12] 25 ?_; intro gb219 hg w8 hbox hb; have n0_ := am (below_step bl0 hb); have n1_ := am (hbox); have n2_ := am (gw0 hg); have n3_ := am (gw0 hg); clear HB; have HB := n0_; have BK219 := n1_; have GW219 := n2_; have GE219 := n3_; clear n0_ n1_ n2_ n3_; clear hb hbox hg; obtain ⟨hcz9_0, hcz9_1, hcz9_2, hcz9_3, hcz9_4, hcz9_5, hcz9_6, hcz9_7, hcz9_8, hcz9_9, hcz9_10, hcz9_11, hcz9_12⟩ := cellsK13 BK219.out; obtain ⟨hfz9_0, hfz9_1, hfz9_2, hfz9_3, hfz9_4, hfz9_5, hfz9_6, hfz9_7, hfz9_8, hfz9_9, hfz9_10, hfz9_11, hfz9_12⟩ := frozK13 BK219.out) | ((with_reducible refine gate_callee (f := 55) rfl ?_); refine goesL_ (some 4) rfl rfl Tryz.func55 (by kernel_rfl) rfl #[.agg #[.slice A0_0 l0_0.length c0_0, .slice A0_1 l0_1.length c0_1, .int .i64 a0_2, .int .i64 a0_3, .int .i64 a0_4, .int .i64 a0_5, .int .i64 a0_6, .int .i64 a0_7, .int .i64 a0_8, .int .i64 a0_9, .int .i64 a0_10, .int .i64 a0_11, .int .i64 a0_12]] rfl lm ?_; (with_reducible refine (dr5_ranged.calls _ _ l0_0 _ _ l0_1 a0_2 a0_3 a0_4 a0_5 a0_6 a0_7 a0_8 a0_9 a0_10 a0_11 a0_12 false _ ?side1 ?side2 ?side3 ?side4 A2.out).mono ?_); (case side1 => exact kc HR0_0); (case side2 => exact HC0_0.out); (case side3 => exact kc HR0_1); (case side4 => exact HC0_1.out); rintro e w10 ⟨rfl, hb⟩; refine ⟨_, rfl, ?_⟩; have n0_ := am (blk_below (bk BK219) hb); have n1_ := am (below_step (bl1 GE219) hb); clear BK219; clear HB; have BK219 := n0_; have HB := n1_; clear n0_ n1_; (try clear hb); (try clear hb2); (try clear hk); (try clear hi)))
  go_ret
  exact ⟨ew, bl1 GE219⟩
def dr5_edge.f (l0_0 : List (S68)) (l0_1 : List (S71)) (a0_2 : Int) (a0_3 : Int) (a0_4 : Int) (a0_5 : Int) (a0_6 : Int) (a0_7 : Int) (a0_8 : Int) (a0_9 : Int) (a0_10 : Int) (a0_11 : Int) (a0_12 : Int) : Option (Int) := (dr5_up.f (wrap64 ((wrap64 (2 * a0_6)) * a0_2))).bind fun t272 => (some (wrap64 (t272 + 1)))
set_option maxHeartbeats 8000000 in
set_option maxRecDepth 100000 in
theorem dr5_edge.calls (A0_0 : Option Addr) (c0_0 : Nat) (l0_0 : List (S68)) (A0_1 : Option Addr) (c0_1 : Nat) (l0_1 : List (S71)) (a0_2 : Int) (a0_3 : Int) (a0_4 : Int) (a0_5 : Int) (a0_6 : Int) (a0_7 : Int) (a0_8 : Int) (a0_9 : Int) (a0_10 : Int) (a0_11 : Int) (a0_12 : Int) (r : Int) (w : World) (hr0_0 : Kd.C k68 w A0_0 l0_0.length l0_0) (hc0_0 : l0_0.length ≤ c0_0) (hr0_1 : Kd.C k71 w A0_1 l0_1.length l0_1) (hc0_1 : l0_1.length ≤ c0_1) (h : dr5_edge.f l0_0 l0_1 a0_2 a0_3 a0_4 a0_5 a0_6 a0_7 a0_8 a0_9 a0_10 a0_11 a0_12 = some r) :
  Calls Tryz.prog 61 #[.agg #[.slice A0_0 l0_0.length c0_0, .slice A0_1 l0_1.length c0_1, .int .i64 a0_2, .int .i64 a0_3, .int .i64 a0_4, .int .i64 a0_5, .int .i64 a0_6, .int .i64 a0_7, .int .i64 a0_8, .int .i64 a0_9, .int .i64 a0_10, .int .i64 a0_11, .int .i64 a0_12]] w fun e w' => e = .returned (.int .i64 r) ∧ Below w.heap.size w w' := by
 have hu25 := Tryz.underlying25
 have HR0_0 := am hr0_0
 have HC0_0 := am hc0_0
 clear hr0_0 hc0_0
 have HR0_1 := am hr0_1
 have HC0_1 := am hc0_1
 clear hr0_1 hc0_1
 have HB := am (Below.refl w.heap.size w)
 have H : ((dr5_up.f (wrap64 ((wrap64 (2 * a0_6)) * a0_2))).bind fun t272 => (some (wrap64 (t272 + 1)))) = some r := h
 clear h
 replace H := bS H
 obtain ⟨t272, A20, H⟩ := H
 replace H : (some (wrap64 (t272 + 1))) = some r := H
 have A2 := am A20
 clear A20
 obtain rfl := Option.some.inj H
 go_enter Tryz.func61, Tryz.ntmps61
 go_wp2_with (first | ((with_reducible refine gate_dst (N := 1) rfl ?_); refine bxe 1 #[.slice A0_0 l0_0.length c0_0, .slice A0_1 l0_1.length c0_1, .int .i64 a0_2, .int .i64 a0_3, .int .i64 a0_4, .int .i64 a0_5, .int .i64 a0_6, .int .i64 a0_7, .int .i64 a0_8, .int .i64 a0_9, .int .i64 a0_10, .int .i64 a0_11, .int .i64 a0_12] 25 ?_; intro gb271 hg w3 hbox hb; have n0_ := am (below_step bl0 hb); have n1_ := am (hbox); have n2_ := am (gw0 hg); have n3_ := am (gw0 hg); clear HB; have HB := n0_; have BK271 := n1_; have GW271 := n2_; have GE271 := n3_; clear n0_ n1_ n2_ n3_; clear hb hbox hg; obtain ⟨hcz4_0, hcz4_1, hcz4_2, hcz4_3, hcz4_4, hcz4_5, hcz4_6, hcz4_7, hcz4_8, hcz4_9, hcz4_10, hcz4_11, hcz4_12⟩ := cellsK13 BK271.out; obtain ⟨hfz4_0, hfz4_1, hfz4_2, hfz4_3, hfz4_4, hfz4_5, hfz4_6, hfz4_7, hfz4_8, hfz4_9, hfz4_10, hfz4_11, hfz4_12⟩ := frozK13 BK271.out) | ((with_reducible refine gate_callee (f := 74) rfl ?_); refine goesL_ (some 9) rfl rfl Tryz.func74 (by kernel_rfl) rfl #[.int .i64 (wrap64 ((wrap64 (2 * a0_6)) * a0_2))] rfl lm ?_; (with_reducible refine (dr5_up.calls (wrap64 ((wrap64 (2 * a0_6)) * a0_2)) t272 _ A2.out).mono ?_); rintro e w' ⟨rfl, ⟨nd, rfl⟩⟩; refine ⟨_, rfl, ?_⟩))
 go_ret
 exact ⟨ew, bl1 GE271⟩
def dr5_Edge.f (l0_0 : List (S68)) (l0_1 : List (S71)) (a0_2 : Int) (a0_3 : Int) (a0_4 : Int) (a0_5 : Int) (a0_6 : Int) (a0_7 : Int) (a0_8 : Int) (a0_9 : Int) (a0_10 : Int) (a0_11 : Int) (a0_12 : Int) : Option (Int) := (dr5_ranged.f l0_0 l0_1 a0_2 a0_3 a0_4 a0_5 a0_6 a0_7 a0_8 a0_9 a0_10 a0_11 a0_12).bind fun t274 => (if t274 = true then ((dr5_edge.f l0_0 l0_1 a0_2 a0_3 a0_4 a0_5 a0_6 a0_7 a0_8 a0_9 a0_10 a0_11 a0_12).bind fun t275 => (some t275)) else (some 0))
set_option maxHeartbeats 8000000 in
set_option maxRecDepth 100000 in
theorem dr5_Edge.calls (A0_0 : Option Addr) (c0_0 : Nat) (l0_0 : List (S68)) (A0_1 : Option Addr) (c0_1 : Nat) (l0_1 : List (S71)) (a0_2 : Int) (a0_3 : Int) (a0_4 : Int) (a0_5 : Int) (a0_6 : Int) (a0_7 : Int) (a0_8 : Int) (a0_9 : Int) (a0_10 : Int) (a0_11 : Int) (a0_12 : Int) (r : Int) (w : World) (hr0_0 : Kd.C k68 w A0_0 l0_0.length l0_0) (hc0_0 : l0_0.length ≤ c0_0) (hr0_1 : Kd.C k71 w A0_1 l0_1.length l0_1) (hc0_1 : l0_1.length ≤ c0_1) (h : dr5_Edge.f l0_0 l0_1 a0_2 a0_3 a0_4 a0_5 a0_6 a0_7 a0_8 a0_9 a0_10 a0_11 a0_12 = some r) :
  Calls Tryz.prog 38 #[.agg #[.slice A0_0 l0_0.length c0_0, .slice A0_1 l0_1.length c0_1, .int .i64 a0_2, .int .i64 a0_3, .int .i64 a0_4, .int .i64 a0_5, .int .i64 a0_6, .int .i64 a0_7, .int .i64 a0_8, .int .i64 a0_9, .int .i64 a0_10, .int .i64 a0_11, .int .i64 a0_12]] w fun e w' => e = .returned (.int .i64 r) ∧ Below w.heap.size w w' := by
 have hu25 := Tryz.underlying25
 have HR0_0 := am hr0_0
 have HC0_0 := am hc0_0
 clear hr0_0 hc0_0
 have HR0_1 := am hr0_1
 have HC0_1 := am hc0_1
 clear hr0_1 hc0_1
 have HB := am (Below.refl w.heap.size w)
 have H : ((dr5_ranged.f l0_0 l0_1 a0_2 a0_3 a0_4 a0_5 a0_6 a0_7 a0_8 a0_9 a0_10 a0_11 a0_12).bind fun t274 => (if t274 = true then ((dr5_edge.f l0_0 l0_1 a0_2 a0_3 a0_4 a0_5 a0_6 a0_7 a0_8 a0_9 a0_10 a0_11 a0_12).bind fun t275 => (some t275)) else (some 0))) = some r := h
 clear h
 replace H := bS H
 obtain ⟨t274, A20, H⟩ := H
 replace H : (if t274 = true then ((dr5_edge.f l0_0 l0_1 a0_2 a0_3 a0_4 a0_5 a0_6 a0_7 a0_8 a0_9 a0_10 a0_11 a0_12).bind fun t275 => (some t275)) else (some 0)) = some r := H
 have A2 := am A20
 clear A20
 by_cases c3 : t274 = true
 ·subst c3
  have H1 : ((dr5_edge.f l0_0 l0_1 a0_2 a0_3 a0_4 a0_5 a0_6 a0_7 a0_8 a0_9 a0_10 a0_11 a0_12).bind fun t275 => (some t275)) = some r := by rw [if_pos rfl] at H; exact H
  clear H
  have H := H1
  clear H1
  replace H := bS H
  obtain ⟨t275, A40, H⟩ := H
  replace H : (some t275) = some r := H
  have A4 := am A40
  clear A40
  obtain rfl := Option.some.inj H
  go_enter Tryz.func38, Tryz.ntmps38
  go_wp2_with (first | ((with_reducible refine gate_dst (N := 1) rfl ?_); refine bxe 1 #[.slice A0_0 l0_0.length c0_0, .slice A0_1 l0_1.length c0_1, .int .i64 a0_2, .int .i64 a0_3, .int .i64 a0_4, .int .i64 a0_5, .int .i64 a0_6, .int .i64 a0_7, .int .i64 a0_8, .int .i64 a0_9, .int .i64 a0_10, .int .i64 a0_11, .int .i64 a0_12] 25 ?_; intro gb273 hg w5 hbox hb; have n0_ := am (below_step bl0 hb); have n1_ := am (hbox); have n2_ := am (gw0 hg); have n3_ := am (gw0 hg); clear HB; have HB := n0_; have BK273 := n1_; have GW273 := n2_; have GE273 := n3_; clear n0_ n1_ n2_ n3_; clear hb hbox hg; obtain ⟨hcz6_0, hcz6_1, hcz6_2, hcz6_3, hcz6_4, hcz6_5, hcz6_6, hcz6_7, hcz6_8, hcz6_9, hcz6_10, hcz6_11, hcz6_12⟩ := cellsK13 BK273.out; obtain ⟨hfz6_0, hfz6_1, hfz6_2, hfz6_3, hfz6_4, hfz6_5, hfz6_6, hfz6_7, hfz6_8, hfz6_9, hfz6_10, hfz6_11, hfz6_12⟩ := frozK13 BK273.out) | ((with_reducible refine gate_callee (f := 55) rfl ?_); refine goesL_ (some 4) rfl rfl Tryz.func55 (by kernel_rfl) rfl #[.agg #[.slice A0_0 l0_0.length c0_0, .slice A0_1 l0_1.length c0_1, .int .i64 a0_2, .int .i64 a0_3, .int .i64 a0_4, .int .i64 a0_5, .int .i64 a0_6, .int .i64 a0_7, .int .i64 a0_8, .int .i64 a0_9, .int .i64 a0_10, .int .i64 a0_11, .int .i64 a0_12]] rfl lm ?_; (with_reducible refine (dr5_ranged.calls _ _ l0_0 _ _ l0_1 a0_2 a0_3 a0_4 a0_5 a0_6 a0_7 a0_8 a0_9 a0_10 a0_11 a0_12 true _ ?side1 ?side2 ?side3 ?side4 A2.out).mono ?_); (case side1 => exact kc HR0_0); (case side2 => exact HC0_0.out); (case side3 => exact kc HR0_1); (case side4 => exact HC0_1.out); rintro e w7 ⟨rfl, hb⟩; refine ⟨_, rfl, ?_⟩; have n0_ := am (blk_below (bk BK273) hb); have n1_ := am (below_step (bl1 GE273) hb); clear BK273; clear HB; have BK273 := n0_; have HB := n1_; clear n0_ n1_; (try clear hb); (try clear hb2); (try clear hk); (try clear hi); obtain ⟨hcz8_0, hcz8_1, hcz8_2, hcz8_3, hcz8_4, hcz8_5, hcz8_6, hcz8_7, hcz8_8, hcz8_9, hcz8_10, hcz8_11, hcz8_12⟩ := cellsK13 BK273.out; obtain ⟨hfz8_0, hfz8_1, hfz8_2, hfz8_3, hfz8_4, hfz8_5, hfz8_6, hfz8_7, hfz8_8, hfz8_9, hfz8_10, hfz8_11, hfz8_12⟩ := frozK13 BK273.out) | ((with_reducible refine gate_callee (f := 61) rfl ?_); refine goesL_ (some 7) rfl rfl Tryz.func61 (by kernel_rfl) rfl #[.agg #[.slice A0_0 l0_0.length c0_0, .slice A0_1 l0_1.length c0_1, .int .i64 a0_2, .int .i64 a0_3, .int .i64 a0_4, .int .i64 a0_5, .int .i64 a0_6, .int .i64 a0_7, .int .i64 a0_8, .int .i64 a0_9, .int .i64 a0_10, .int .i64 a0_11, .int .i64 a0_12]] rfl lm ?_; (with_reducible refine (dr5_edge.calls _ _ l0_0 _ _ l0_1 a0_2 a0_3 a0_4 a0_5 a0_6 a0_7 a0_8 a0_9 a0_10 a0_11 a0_12 t275 _ ?side1 ?side2 ?side3 ?side4 A4.out).mono ?_); (case side1 => exact kc HR0_0); (case side2 => exact HC0_0.out); (case side3 => exact kc HR0_1); (case side4 => exact HC0_1.out); rintro e w9 ⟨rfl, hb⟩; refine ⟨_, rfl, ?_⟩; have n0_ := am (blk_below (bk BK273) hb); have n1_ := am (below_step (bl1 GE273) hb); clear BK273; clear HB; have BK273 := n0_; have HB := n1_; clear n0_ n1_; (try clear hb); (try clear hb2); (try clear hk); (try clear hi)))
  go_ret
  exact ⟨ew, bl1 GE273⟩
 ·replace c3 := Bool.eq_false_iff.mpr c3
  subst c3
  have H1 : (some 0) = some r := by rw [if_neg (show ¬ (false = true) by decide)] at H; exact H
  clear H
  have H := H1
  clear H1
  obtain rfl := Option.some.inj H
  go_enter Tryz.func38, Tryz.ntmps38
  go_wp2_with (first | ((with_reducible refine gate_dst (N := 1) rfl ?_); refine bxe 1 #[.slice A0_0 l0_0.length c0_0, .slice A0_1 l0_1.length c0_1, .int .i64 a0_2, .int .i64 a0_3, .int .i64 a0_4, .int .i64 a0_5, .int .i64 a0_6, .int .i64 a0_7, .int .i64 a0_8, .int .i64 a0_9, .int .i64 a0_10, .int .i64 a0_11, .int .i64 a0_12] 25 ?_; intro gb273 hg w10 hbox hb; have n0_ := am (below_step bl0 hb); have n1_ := am (hbox); have n2_ := am (gw0 hg); have n3_ := am (gw0 hg); clear HB; have HB := n0_; have BK273 := n1_; have GW273 := n2_; have GE273 := n3_; clear n0_ n1_ n2_ n3_; clear hb hbox hg; obtain ⟨hcz11_0, hcz11_1, hcz11_2, hcz11_3, hcz11_4, hcz11_5, hcz11_6, hcz11_7, hcz11_8, hcz11_9, hcz11_10, hcz11_11, hcz11_12⟩ := cellsK13 BK273.out; obtain ⟨hfz11_0, hfz11_1, hfz11_2, hfz11_3, hfz11_4, hfz11_5, hfz11_6, hfz11_7, hfz11_8, hfz11_9, hfz11_10, hfz11_11, hfz11_12⟩ := frozK13 BK273.out) | ((with_reducible refine gate_callee (f := 55) rfl ?_); refine goesL_ (some 4) rfl rfl Tryz.func55 (by kernel_rfl) rfl #[.agg #[.slice A0_0 l0_0.length c0_0, .slice A0_1 l0_1.length c0_1, .int .i64 a0_2, .int .i64 a0_3, .int .i64 a0_4, .int .i64 a0_5, .int .i64 a0_6, .int .i64 a0_7, .int .i64 a0_8, .int .i64 a0_9, .int .i64 a0_10, .int .i64 a0_11, .int .i64 a0_12]] rfl lm ?_; (with_reducible refine (dr5_ranged.calls _ _ l0_0 _ _ l0_1 a0_2 a0_3 a0_4 a0_5 a0_6 a0_7 a0_8 a0_9 a0_10 a0_11 a0_12 false _ ?side1 ?side2 ?side3 ?side4 A2.out).mono ?_); (case side1 => exact kc HR0_0); (case side2 => exact HC0_0.out); (case side3 => exact kc HR0_1); (case side4 => exact HC0_1.out); rintro e w12 ⟨rfl, hb⟩; refine ⟨_, rfl, ?_⟩; have n0_ := am (blk_below (bk BK273) hb); have n1_ := am (below_step (bl1 GE273) hb); clear BK273; clear HB; have BK273 := n0_; have HB := n1_; clear n0_ n1_; (try clear hb); (try clear hb2); (try clear hk); (try clear hi)))
  go_ret
  exact ⟨ew, bl1 GE273⟩
def dr5_Near.f (l0_0 : List (S68)) (l0_1 : List (S71)) (a0_2 : Int) (a0_3 : Int) (a0_4 : Int) (a0_5 : Int) (a0_6 : Int) (a0_7 : Int) (a0_8 : Int) (a0_9 : Int) (a0_10 : Int) (a0_11 : Int) (a0_12 : Int) : Option (Int) := (dr5_Edge.f l0_0 l0_1 a0_2 a0_3 a0_4 a0_5 a0_6 a0_7 a0_8 a0_9 a0_10 a0_11 a0_12).bind fun t277 => (some (wrap64 (2 * t277)))
set_option maxHeartbeats 8000000 in
set_option maxRecDepth 100000 in
theorem dr5_Near.calls (A0_0 : Option Addr) (c0_0 : Nat) (l0_0 : List (S68)) (A0_1 : Option Addr) (c0_1 : Nat) (l0_1 : List (S71)) (a0_2 : Int) (a0_3 : Int) (a0_4 : Int) (a0_5 : Int) (a0_6 : Int) (a0_7 : Int) (a0_8 : Int) (a0_9 : Int) (a0_10 : Int) (a0_11 : Int) (a0_12 : Int) (r : Int) (w : World) (hr0_0 : Kd.C k68 w A0_0 l0_0.length l0_0) (hc0_0 : l0_0.length ≤ c0_0) (hr0_1 : Kd.C k71 w A0_1 l0_1.length l0_1) (hc0_1 : l0_1.length ≤ c0_1) (h : dr5_Near.f l0_0 l0_1 a0_2 a0_3 a0_4 a0_5 a0_6 a0_7 a0_8 a0_9 a0_10 a0_11 a0_12 = some r) :
  Calls Tryz.prog 36 #[.agg #[.slice A0_0 l0_0.length c0_0, .slice A0_1 l0_1.length c0_1, .int .i64 a0_2, .int .i64 a0_3, .int .i64 a0_4, .int .i64 a0_5, .int .i64 a0_6, .int .i64 a0_7, .int .i64 a0_8, .int .i64 a0_9, .int .i64 a0_10, .int .i64 a0_11, .int .i64 a0_12]] w fun e w' => e = .returned (.int .i64 r) ∧ Below w.heap.size w w' := by
 have hu25 := Tryz.underlying25
 have HR0_0 := am hr0_0
 have HC0_0 := am hc0_0
 clear hr0_0 hc0_0
 have HR0_1 := am hr0_1
 have HC0_1 := am hc0_1
 clear hr0_1 hc0_1
 have HB := am (Below.refl w.heap.size w)
 have H : ((dr5_Edge.f l0_0 l0_1 a0_2 a0_3 a0_4 a0_5 a0_6 a0_7 a0_8 a0_9 a0_10 a0_11 a0_12).bind fun t277 => (some (wrap64 (2 * t277)))) = some r := h
 clear h
 replace H := bS H
 obtain ⟨t277, A20, H⟩ := H
 replace H : (some (wrap64 (2 * t277))) = some r := H
 have A2 := am A20
 clear A20
 obtain rfl := Option.some.inj H
 go_enter Tryz.func36, Tryz.ntmps36
 go_wp2_with (first | ((with_reducible refine gate_dst (N := 1) rfl ?_); refine bxe 1 #[.slice A0_0 l0_0.length c0_0, .slice A0_1 l0_1.length c0_1, .int .i64 a0_2, .int .i64 a0_3, .int .i64 a0_4, .int .i64 a0_5, .int .i64 a0_6, .int .i64 a0_7, .int .i64 a0_8, .int .i64 a0_9, .int .i64 a0_10, .int .i64 a0_11, .int .i64 a0_12] 25 ?_; intro gb276 hg w3 hbox hb; have n0_ := am (below_step bl0 hb); have n1_ := am (hbox); have n2_ := am (gw0 hg); have n3_ := am (gw0 hg); clear HB; have HB := n0_; have BK276 := n1_; have GW276 := n2_; have GE276 := n3_; clear n0_ n1_ n2_ n3_; clear hb hbox hg; obtain ⟨hcz4_0, hcz4_1, hcz4_2, hcz4_3, hcz4_4, hcz4_5, hcz4_6, hcz4_7, hcz4_8, hcz4_9, hcz4_10, hcz4_11, hcz4_12⟩ := cellsK13 BK276.out; obtain ⟨hfz4_0, hfz4_1, hfz4_2, hfz4_3, hfz4_4, hfz4_5, hfz4_6, hfz4_7, hfz4_8, hfz4_9, hfz4_10, hfz4_11, hfz4_12⟩ := frozK13 BK276.out) | ((with_reducible refine gate_callee (f := 38) rfl ?_); refine goesL_ (some 4) rfl rfl Tryz.func38 (by kernel_rfl) rfl #[.agg #[.slice A0_0 l0_0.length c0_0, .slice A0_1 l0_1.length c0_1, .int .i64 a0_2, .int .i64 a0_3, .int .i64 a0_4, .int .i64 a0_5, .int .i64 a0_6, .int .i64 a0_7, .int .i64 a0_8, .int .i64 a0_9, .int .i64 a0_10, .int .i64 a0_11, .int .i64 a0_12]] rfl lm ?_; (with_reducible refine (dr5_Edge.calls _ _ l0_0 _ _ l0_1 a0_2 a0_3 a0_4 a0_5 a0_6 a0_7 a0_8 a0_9 a0_10 a0_11 a0_12 t277 _ ?side1 ?side2 ?side3 ?side4 A2.out).mono ?_); (case side1 => exact kc HR0_0); (case side2 => exact HC0_0.out); (case side3 => exact kc HR0_1); (case side4 => exact HC0_1.out); rintro e w5 ⟨rfl, hb⟩; refine ⟨_, rfl, ?_⟩; have n0_ := am (blk_below (bk BK276) hb); have n1_ := am (below_step (bl1 GE276) hb); clear BK276; clear HB; have BK276 := n0_; have HB := n1_; clear n0_ n1_; (try clear hb); (try clear hb2); (try clear hk); (try clear hi)))
 go_ret
 exact ⟨ew, bl1 GE276⟩
end Go.Proofs.YtbefbhghmommhaaGreatDoor.MWo
set_option linter.unusedVariables false
set_option linter.unusedSimpArgs false
set_option maxRecDepth 100000
namespace Go.Proofs.YtbefbhghmommhaaGreatDoor.MWo
open Go.RowKit Go.Proofs.YtbefbhghmommhaaGreatDoorW.PrintWords Go.Proofs.YtbefbhghmommhaaGreatDoorW.PrintLast Go.Proofs.YtbefbhghmommhaaGreatDoorW.PrintMore Go.Proofs.YtbefbhghmommhaaGreatDoor.Evl
def up (d : Int) : Int := (d + 999999) / 1000000
theorem ceil_eq {d : Int} (h0 : 0 ≤ d) (h1 : d ≤ 1000000000000) : dr1_Ceil.f d 1000000 = some (up d, true) := by
 unfold dr1_Ceil.f up
 rw [if_neg (by omega), if_neg (by omega), Int.tmod_eq_emod_of_nonneg h0, Int.tdiv_eq_ediv_of_nonneg h0]
 have e : wrap64 (d / 1000000) = d / 1000000 := by unfold wrap64; omega
 rw [e]
 by_cases h : d % 1000000 > 0
 ·rw [if_pos h, show wrap64 (d / 1000000 + 1) = d / 1000000 + 1 by unfold wrap64; omega, show d / 1000000 + 1 = (d + 999999) / 1000000 by omega]
 ·rw [if_neg h, show d / 1000000 = (d + 999999) / 1000000 by omega]
theorem up_eq {d : Int} (h0 : 0 ≤ d) (h1 : d ≤ 1000000000000) : dr5_up.f d = some (up d) := by
 unfold dr5_up.f; rw [ceil_eq h0 h1]; rfl
def Eg (dr cyc : Int) : Int := up (2 * dr * cyc) + 1
theorem tceil_eq {d : Int} (h0 : 0 ≤ d) (h1 : d ≤ 1000000000000) : ticks_Ceil.f d 1000000 = some (up d, true) := ceil_eq h0 h1
theorem part_eq {d : Int} (h0 : 0 ≤ d) (h1 : d ≤ 1000000000000) : bounds_part.f d = some (up d) := by
 unfold bounds_part.f; rw [tceil_eq h0 h1]; rfl
theorem dc_bd {dr cyc : Int} (h1 : 0 ≤ dr) (h2 : dr ≤ 500) (h3 : 1000 ≤ cyc) (h4 : cyc ≤ 1000000) : 0 ≤ dr * cyc ∧ dr * cyc ≤ 500000000 ∧ 2 * dr * cyc = 2 * (dr * cyc) := by
 refine ⟨Int.mul_nonneg h1 (by omega), ?_, Int.mul_assoc 2 dr cyc⟩
 calc dr * cyc ≤ 500 * cyc := Int.mul_le_mul_of_nonneg_right h2 (by omega)
  _ ≤ 500000000 := by omega
theorem Eg_bd {dr cyc : Int} (h1 : 0 ≤ dr) (h2 : dr ≤ 500) (h3 : 1000 ≤ cyc) (h4 : cyc ≤ 1000000) : 1 ≤ Eg dr cyc ∧ Eg dr cyc ≤ 1001 := by
 have := dc_bd h1 h2 h3 h4
 unfold Eg up; omega
theorem edge_eq (P : List S68) (L : List S71) {a2 a3 a4 a5 a6 a7 a8 a9 a10 a11 a12 : Int} (h1 : 0 ≤ a6) (h2 : a6 ≤ 500) (h3 : 1000 ≤ a2) (h4 : a2 ≤ 1000000) : dr5_edge.f P L a2 a3 a4 a5 a6 a7 a8 a9 a10 a11 a12 = some (Eg a6 a2) := by
 have hb := dc_bd h1 h2 h3 h4
 unfold dr5_edge.f
 rw [show wrap64 (2 * a6) = 2 * a6 by unfold wrap64; omega, show wrap64 (2 * a6 * a2) = 2 * a6 * a2 by unfold wrap64; omega, up_eq (by omega) (by omega)]
 simp only [Option.bind_some]
 have := Eg_bd h1 h2 h3 h4
 unfold Eg at *
 rw [show wrap64 (up (2 * a6 * a2) + 1) = up (2 * a6 * a2) + 1 by unfold wrap64; omega]
def gnV (P : List S68) (Q : List S71) (a2 a6 a8 a7 a9 : Int) : Int := if netsB P Q = true ∧ rangeOk a2 a6 a7 a8 a9 then a8 + 1 else 0
def nrV (P : List S68) (Q : List S71) (a2 a6 a8 a7 a9 : Int) : Int := if netsB P Q = true ∧ rangeOk a2 a6 a7 a8 a9 then 2 * Eg a6 a2 else 0
theorem reckon_ok (P : List S68) (L : List S71) {a2 a3 a4 a5 a6 a7 a8 a9 a10 a11 a12 : Int} (h : rangeOk a2 a6 a7 a8 a9) : ∃ r1 r3 r4 r5 r6, bounds_Reckon.f P L a2 a3 a4 a5 a6 a7 a8 a9 a10 a11 a12 = some (r1, 2 * Eg a6 a2, r3, r4, r5, r6, a8 + 1) := by
 obtain ⟨h3, h4, h1, h2, h5, h6, h7, h8, h9, h10⟩ := h
 have hb := dc_bd h1 h2 h3 h4
 have he := Eg_bd h1 h2 h3 h4
 unfold bounds_Reckon.f
 rw [show wrap64 (2 * a6) = 2 * a6 by unfold wrap64; omega, show wrap64 (2 * a6 * a2) = 2 * a6 * a2 by unfold wrap64; omega, part_eq (by omega) (by omega)]
 simp only [Option.bind_some]
 rw [show wrap64 (a6 * a2) = a6 * a2 by unfold wrap64; omega, part_eq (by omega) (by omega)]
 simp only [Option.bind_some]
 have e1 : up (2 * a6 * a2) + 1 = Eg a6 a2 := rfl
 have hm : 0 ≤ 2 * Eg a6 a2 * (a7 + a6) ∧ 2 * Eg a6 a2 * (a7 + a6) ≤ 2002 * (a7 + a6) := ⟨Int.mul_nonneg (by omega) (by omega), Int.mul_le_mul_of_nonneg_right (by omega) (by omega)⟩
 rw [e1, show wrap64 (Eg a6 a2) = Eg a6 a2 by unfold wrap64; omega, show wrap64 (2 * Eg a6 a2) = 2 * Eg a6 a2 by unfold wrap64; omega, show wrap64 (a7 + a6) = a7 + a6 by unfold wrap64; omega, show wrap64 (2 * Eg a6 a2 * (a7 + a6)) = 2 * Eg a6 a2 * (a7 + a6) by unfold wrap64; omega, part_eq (by omega) (by omega)]
 simp only [Option.bind_some]
 rw [show wrap64 (a8 + 1) = a8 + 1 by unfold wrap64; omega]
 exact ⟨_, _, _, _, _, rfl⟩
theorem within_eq (a b c : Int) : bounds_within.f a b c = some (decide (b ≤ a) && decide (a ≤ c)) := by
 unfold bounds_within.f
 by_cases h : a ≥ b
 ·rw [if_pos h, dT (show b ≤ a from h), Bool.true_and]
 ·rw [if_neg h, dF (show ¬ b ≤ a from h), Bool.false_and]
def fstV (b1 b2 b3 b4 b5 : Bool) : Int := if b1 = false then 1 else if b2 = false then 2 else if b3 = false then 3 else if b4 = false then 4 else if b5 = false then 5 else 0
theorem first_eq (b1 b2 b3 b4 b5 : Bool) : bounds_first.f 100 1 [b1, b2, b3, b4, b5] = some (fstV b1 b2 b3 b4 b5) := by
 cases b1 <;> cases b2 <;> cases b3 <;> cases b4 <;> cases b5 <;> kernel_rfl
theorem fstV_ok (b1 b2 b3 b4 b5 : Bool) : fstV b1 b2 b3 b4 b5 = 0 ↔ (b1 = true ∧ b2 = true ∧ b3 = true ∧ b4 = true ∧ b5 = true) := by
 cases b1 <;> cases b2 <;> cases b3 <;> cases b4 <;> cases b5 <;> decide
theorem ranged_ev (P : List S68) (L : List S71) (a2 a3 a4 a5 a6 a7 a8 a9 a10 a11 a12 : Int) : ∃ x, bounds_ranged.f 100 P L a2 a3 a4 a5 a6 a7 a8 a9 a10 a11 a12 = some x ∧ (x = 0 ↔ rangeOk a2 a6 a7 a8 a9) := by
 refine ⟨fstV (decide (1000 ≤ a2) && decide (a2 ≤ 1000000)) (decide (0 ≤ a6) && decide (a6 ≤ 500)) (decide (0 ≤ a7) && decide (a7 ≤ 400000)) (decide (1 ≤ a8) && decide (a8 ≤ 200)) (decide (0 ≤ a9) && decide (a9 ≤ 20)), ?_, ?_⟩
 ·unfold bounds_ranged.f
  rw [within_eq, within_eq, within_eq, within_eq, within_eq]
  simp only [Option.bind_some]
  rw [first_eq]
  rfl
 ·rw [fstV_ok]
  simp only [Bool.and_eq_true, decide_eq_true_eq]
  unfold rangeOk
  omega
theorem nums (P : List S68) (Q : List S71) (a2 a3 a4 a5 a6 a7 a8 a9 a10 a11 a12 : Int) : ∃ x r1 r2 r3 r4 r5 r6 r7, bounds_ranged.f 100 P Q a2 a3 a4 a5 a6 a7 a8 a9 a10 a11 a12 = some x ∧ (netsB P Q = true → x = 0 → bounds_Reckon.f P Q a2 a3 a4 a5 a6 a7 a8 a9 a10 a11 a12 = some (r1, r2, r3, r4, r5, r6, r7)) ∧
  (¬ (netsB P Q = true ∧ x = 0) → r1 = 0 ∧ r2 = 0 ∧ r3 = 0 ∧ r4 = 0 ∧ r5 = 0 ∧ r6 = 0 ∧ r7 = 0) ∧ r2 = nrV P Q a2 a6 a8 a7 a9 ∧ r7 = gnV P Q a2 a6 a8 a7 a9 := by
 obtain ⟨x, hx, hi⟩ := ranged_ev P Q a2 a3 a4 a5 a6 a7 a8 a9 a10 a11 a12
 by_cases c : netsB P Q = true ∧ x = 0
 ·have hr := hi.1 c.2
  obtain ⟨r1, r3, r4, r5, r6, hk⟩ := reckon_ok P Q (a3 := a3) (a4 := a4) (a5 := a5) (a10 := a10) (a11 := a11) (a12 := a12) hr
  exact ⟨x, r1, _, r3, r4, r5, r6, _, hx, fun _ _ => hk, fun h => absurd c h, by unfold nrV; rw [if_pos ⟨c.1, hr⟩], by unfold gnV; rw [if_pos ⟨c.1, hr⟩]⟩
 ·have hr : ¬ (netsB P Q = true ∧ rangeOk a2 a6 a7 a8 a9) := fun h => c ⟨h.1, hi.2 h.2⟩
  exact ⟨x, 0, 0, 0, 0, 0, 0, 0, hx, fun h1 h2 => absurd ⟨h1, h2⟩ c, fun _ => ⟨rfl, rfl, rfl, rfl, rfl, rfl, rfl⟩, by unfold nrV; rw [if_neg hr], by unfold gnV; rw [if_neg hr]⟩
theorem rranged_eq (P : List S68) (Q : List S71) (a2 a3 a4 a5 a6 a7 a8 a9 a10 a11 a12 : Int) (hP : P.length ≤ 1000) (hQ : Q.length ≤ 1000) : dr5_ranged.f P Q a2 a3 a4 a5 a6 a7 a8 a9 a10 a11 a12 = some (decide (netsB P Q = true ∧ rangeOk a2 a6 a7 a8 a9)) := by
 unfold dr5_ranged.f dr5_Good.f dr5_out.f
 rw [if_pos ⟨hP, hQ⟩]
 simp only [Option.bind_some]
 by_cases c : netsB P Q = true
 ·have hp : 1 ≤ P.length := ((netsB_iff P Q).1 c).1.1
  rw [c, dT (Int.le_refl 0), dT (show (0 : Int) < P.length by omega)]
  simp only [Bool.and_self, if_true, true_and]
  congr 1
  by_cases r : rangeOk a2 a6 a7 a8 a9
  ·rw [dT r, (outV_ok a2 a6 a7 a8 a9).2 r]; rfl
  ·rw [dF r, beq_eq_false_iff_ne]; exact fun h => r ((outV_ok a2 a6 a7 a8 a9).1 h)
 ·have c' : netsB P Q = false := by simpa using c
  rw [c', Bool.false_and, if_neg (by decide)]
  simp
theorem rgone_eq (P : List S68) (Q : List S71) (a2 a3 a4 a5 a6 a7 a8 a9 a10 a11 a12 : Int) (hP : P.length ≤ 1000) (hQ : Q.length ≤ 1000) : dr5_Gone.f P Q a2 a3 a4 a5 a6 a7 a8 a9 a10 a11 a12 = some (gnV P Q a2 a6 a8 a7 a9) := by
 unfold dr5_Gone.f gnV
 rw [rranged_eq P Q a2 a3 a4 a5 a6 a7 a8 a9 a10 a11 a12 hP hQ, Option.bind_some]
 by_cases c : netsB P Q = true ∧ rangeOk a2 a6 a7 a8 a9
 ·rw [if_pos (dT c), if_pos c, show wrap64 (a8 + 1) = a8 + 1 by have := c.2; unfold rangeOk at this; unfold wrap64; omega]
 ·rw [if_neg (by simpa using c), if_neg c]
theorem rnear_eq (P : List S68) (Q : List S71) (a2 a3 a4 a5 a6 a7 a8 a9 a10 a11 a12 : Int) (hP : P.length ≤ 1000) (hQ : Q.length ≤ 1000) : dr5_Near.f P Q a2 a3 a4 a5 a6 a7 a8 a9 a10 a11 a12 = some (nrV P Q a2 a6 a8 a7 a9) := by
 unfold dr5_Near.f dr5_Edge.f nrV
 rw [rranged_eq P Q a2 a3 a4 a5 a6 a7 a8 a9 a10 a11 a12 hP hQ, Option.bind_some]
 by_cases c : netsB P Q = true ∧ rangeOk a2 a6 a7 a8 a9
 ·obtain ⟨h3, h4, h1, h2, h5, h6, h7, h8, h9, h10⟩ := c.2
  have he := Eg_bd h1 h2 h3 h4
  rw [if_pos (dT c), if_pos c, edge_eq P Q h1 h2 h3 h4]
  simp only [Option.bind_some]
  rw [show wrap64 (2 * Eg a6 a2) = 2 * Eg a6 a2 by unfold wrap64; omega]
 ·rw [if_neg (by simpa using c), if_neg c]
  simp only [Option.bind_some]
  rw [show wrap64 (2 * 0) = 0 by unfold wrap64; omega]
end Go.Proofs.YtbefbhghmommhaaGreatDoor.MWo
