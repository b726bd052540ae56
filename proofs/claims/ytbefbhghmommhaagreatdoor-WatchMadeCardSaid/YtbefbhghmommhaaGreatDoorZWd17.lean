/- Texts of this claim, laid together by a program (wip/g/merge5.py): Hs, MWox71, HOu, MWox72, MWox73, MWox74, MWox75, MWox76, MWox77, Hp. -/
import Derived.Test.YtbefbhghmommhaaGreatDoorZWd12
import Derived.Test.YtbefbhghmommhaaGreatDoorZWd4
import Derived.Test.YtbefbhghmommhaaGreatDoorZWd16
import Derived.BigQuiet
set_option linter.unusedVariables false
set_option linter.unusedSimpArgs false
namespace Go.Proofs.YtbefbhghmommhaaGreatDoor.MWo
open Go.RowKit Go.Proofs.YtbefbhghmommhaaGreatDoorW.PrintWords Go.Proofs.YtbefbhghmommhaaGreatDoorW.PrintLast Go.Proofs.YtbefbhghmommhaaGreatDoorW.PrintMore
set_option maxHeartbeats 8000000 in
set_option maxRecDepth 10000 in
theorem rlink_yes (A0 : Option Addr) (c0 : Nat) (P : List S68) (A1 : Option Addr) (c1 : Nat) (L : List S71) (a2 a3 a4 a5 a6 a7 a8 a9 a10 a11 a12 : Int) (i : Int) (x : S71) (w : World) (hr0 : Kd.C k68 w A0 P.length P) (hc0 : P.length ≤ c0) (hr1 : Kd.C k71 w A1 L.length L) (hc1 : L.length ≤ c1) (hL : L.length ≤ 1000) (hi0 : 0 ≤ i) (hi1 : i < L.length) (hx : rd_T71 L i = x) (hq : LinkOk P (L.take i.toNat) x) :
  Calls Tryz.prog 82 #[.agg #[.slice A0 P.length c0, .slice A1 L.length c1, .int .i64 a2, .int .i64 a3, .int .i64 a4, .int .i64 a5, .int .i64 a6, .int .i64 a7, .int .i64 a8, .int .i64 a9, .int .i64 a10, .int .i64 a11, .int .i64 a12], .int .i64 i] w fun e w' => e = .returned (.int .i64 0) ∧ Below w.heap.size w w' := by
 have HR0 := am hr0
 have HR1 := am hr1
 have HC0 := am hc0
 have HC1 := am hc1
 have HQ := am hq
 have HL := am (show L.length ≤ 1000 ∧ 0 ≤ i ∧ i ≤ (L.length : Int) ∧ i < (L.length : Int) from ⟨hL, hi0, by omega, hi1⟩)
 obtain ⟨ad1, e1, y0, y1, y2, y3, y4, y5⟩ := at_T71 hr1 i hi0 hi1
 subst e1
 rw [hx] at y0 y1 y2 y3 y4 y5
 have p0_ := eq_true hi0
 have p1_ := eq_true hi1
 have hx' := am hx
 clear hr0 hr1 hc0 hc1 hq hL hx
 obtain ⟨a, b, ⟨p0, p1⟩, ⟨q0, q1⟩⟩ := x
 dsimp only at y0 y1 y2 y3 y4 y5
 have HQ' : Aside0 (0 ≤ a ∧ a < b ∧ b < (P.length : Int)) := ⟨HQ.out.a0, HQ.out.ab, HQ.out.b1⟩
 have hge : decide (b ≤ a) = false := dF (by have := HQ'.out; omega)
 go_enter Tryz.func82, Tryz.ntmps82
 go_upto_region 1 with fail
 have HO0 : Aside0 ((w.alloc (.cells #[.slice A0 P.length c0, .slice (some ad1) L.length c1, .int .i64 a2, .int .i64 a3, .int .i64 a4, .int .i64 a5, .int .i64 a6, .int .i64 a7, .int .i64 a8, .int .i64 a9, .int .i64 a10, .int .i64 a11, .int .i64 a12] 25)).heap[w.heap.size]? = some (.cells #[.slice A0 P.length c0, .slice (some ad1) L.length c1, .int .i64 a2, .int .i64 a3, .int .i64 a4, .int .i64 a5, .int .i64 a6, .int .i64 a7, .int .i64 a8, .int .i64 a9, .int .i64 a10, .int .i64 a11, .int .i64 a12] 25)) := ⟨heap_alloc_new _ _⟩
 have HB0 := am (below_alloc (Below.refl w.heap.size w) (Obj.cells #[.slice A0 P.length c0, .slice (some ad1) L.length c1, .int .i64 a2, .int .i64 a3, .int .i64 a4, .int .i64 a5, .int .i64 a6, .int .i64 a7, .int .i64 a8, .int .i64 a9, .int .i64 a10, .int .i64 a11, .int .i64 a12] 25))
 generalize w.alloc (.cells #[.slice A0 P.length c0, .slice (some ad1) L.length c1, .int .i64 a2, .int .i64 a3, .int .i64 a4, .int .i64 a5, .int .i64 a6, .int .i64 a7, .int .i64 a8, .int .i64 a9, .int .i64 a10, .int .i64 a11, .int .i64 a12] 25) = wz at *
 obtain ⟨bx, hbx⟩ : ∃ bx, bx = w.heap.size := ⟨_, rfl⟩
 rw [← hbx]
 rw [← hbx] at HO0
 clear hbx y0 y1 y2 y3 y4 y5
 obtain ⟨ad', e1, y0, y1, y2, y3, y4, y5⟩ := at_T71 (Kd.C_below HR1.out HB0.out) i HL.out.2.1 HL.out.2.2.2
 have e1' := Option.some.inj e1
 subst e1'
 clear e1
 rw [hx'.out] at y0 y1 y2 y3 y4 y5
 dsimp only at y0 y1 y2 y3 y4 y5
 obtain ⟨x0, x1, x2, x3, x4, x5, x6, x7, x8, x9, x10, x11, x12⟩ := cellsK13 HO0.out
 go_upto_region 2 with fail
 have HB1 := am (below_alloc HB0.out (Obj.cells #[.int .i64 a, .int .i64 b, .int .i64 p0, .int .i64 p1, .int .i64 q0, .int .i64 q1] 71))
 have HO1 := am (((below_alloc (Below.refl wz.heap.size wz) (Obj.cells #[.int .i64 a, .int .i64 b, .int .i64 p0, .int .i64 p1, .int .i64 q0, .int .i64 q1] 71)).block bx (blk_lt HO0.out)).trans HO0.out)
 have HLk1 : Aside0 ((wz.alloc (Obj.cells #[.int .i64 a, .int .i64 b, .int .i64 p0, .int .i64 p1, .int .i64 q0, .int .i64 q1] 71)).heap[wz.heap.size]? = some (Obj.cells #[.int .i64 a, .int .i64 b, .int .i64 p0, .int .i64 p1, .int .i64 q0, .int .i64 q1] 71)) := ⟨heap_alloc_new _ _⟩
 clear x0 x1 x2 x3 x4 x5 x6 x7 x8 x9 x10 x11 x12 y0 y1 y2 y3 y4 y5
 generalize wz.alloc (Obj.cells #[.int .i64 a, .int .i64 b, .int .i64 p0, .int .i64 p1, .int .i64 q0, .int .i64 q1] 71) = w1 at *
 generalize wz.heap.size = bl at *
 obtain ⟨x0, x1, x2, x3, x4, x5, x6, x7, x8, x9, x10, x11, x12⟩ := cellsK13 HO1.out
 obtain ⟨l0, l1, l2, l3, l4, l5⟩ := cellsK6 HLk1.out
 go_wp2_with fail
 refine (is_yes a (P.length : Int) _ HQ'.out.1 (by have := HQ'.out; omega)).mono ?_
 rintro e w2 ⟨rfl, hb⟩
 clear x0 x1 x2 x3 x4 x5 x6 x7 x8 x9 x10 x11 x12 l0 l1 l2 l3 l4 l5
 have HB2 := am (below_step HB1.out hb)
 have HO2 := am ((hb.block bx (blk_lt HO1.out)).trans HO1.out)
 have HLk2 := am ((hb.block bl (blk_lt HLk1.out)).trans HLk1.out)
 clear hb
 obtain ⟨x0, x1, x2, x3, x4, x5, x6, x7, x8, x9, x10, x11, x12⟩ := cellsK13 HO2.out
 obtain ⟨l0, l1, l2, l3, l4, l5⟩ := cellsK6 HLk2.out
 go_wp2_with fail
 refine (is_yes b (P.length : Int) _ (by have := HQ'.out; omega) HQ'.out.2.2).mono ?_
 rintro e w3 ⟨rfl, hb⟩
 clear x0 x1 x2 x3 x4 x5 x6 x7 x8 x9 x10 x11 x12 l0 l1 l2 l3 l4 l5
 have HB3 := am (below_step HB2.out hb)
 have HO3 := am ((hb.block bx (blk_lt HO2.out)).trans HO2.out)
 have HLk3 := am ((hb.block bl (blk_lt HLk2.out)).trans HLk2.out)
 clear hb
 obtain ⟨x0, x1, x2, x3, x4, x5, x6, x7, x8, x9, x10, x11, x12⟩ := cellsK13 HO3.out
 obtain ⟨l0, l1, l2, l3, l4, l5⟩ := cellsK6 HLk3.out
 go_wp2_with fail
 clear x0 x1 x2 x3 x4 x5 x6 x7 x8 x9 x10 x11 x12 l0 l1 l2 l3 l4 l5 hge
 go_loopg [6] (L.length + 1) (fun kq v6 w' => ∃ k : Int, v6 = .int .i64 k ∧ Aside0 (kq + k = L.length + 1 ∧ 0 ≤ k ∧ k ≤ i) ∧ Aside0 (Below w.heap.size w w') ∧ Aside0 (w'.heap[bx]? = some (.cells #[.slice A0 P.length c0, .slice (some ad1) L.length c1, .int .i64 a2, .int .i64 a3, .int .i64 a4, .int .i64 a5, .int .i64 a6, .int .i64 a7, .int .i64 a8, .int .i64 a9, .int .i64 a10, .int .i64 a11, .int .i64 a12] 25)) ∧ Aside0 (w'.heap[bl]? = some (.cells #[.int .i64 a, .int .i64 b, .int .i64 p0, .int .i64 p1, .int .i64 q0, .int .i64 q1] 71)))
 case atStart => exact ⟨0, rfl, ⟨by have := HL.out; omega⟩, HB3, HO3, HLk3⟩
 case round =>
  clear HB3 HO3 HLk3
  obtain ⟨k, rfl, HK, HB, HO, HLk⟩ := hrel
  by_cases hk : k < i
  ·have hlt : decide (k < i) = true := dT hk
   have hk0 := HK.out.2.1
   have hkL : k < (L.length : Int) := by have := HL.out; omega
   have hno := any_take HQ.out.once hk0 hk HL.out.2.2.1
   have HBd := am (below_drew HB.out)
   obtain ⟨ad', e1, y0, y1, y2, y3, y4, y5⟩ := at_T71 (Kd.C_below HR1.out HB.out) k hk0 hkL
   have e1' := Option.some.inj e1
   subst e1'
   clear e1
   obtain ⟨xx, hxx⟩ : ∃ xx, rd_T71 L k = xx := ⟨_, rfl⟩
   rw [hxx] at y0 y1 hno
   clear hxx y2 y3 y4 y5
   obtain ⟨xa, xb, xp, xq⟩ := xx
   dsimp only at y0 y1
   have hno' : (xa == a && xb == b) = false := hno
   clear hno
   have k0_ := eq_true hk0
   have k1_ := eq_true hkL
   have hw1 : wrap64 (k + 1) = k + 1 := by have := HL.out; unfold wrap64; omega
   have x1 : wr.cell? ⟨bx, 1, none⟩ = some (.slice (some ad1) L.length c1) := (blk_cell HO.out 1).trans rfl
   have l0 : wr.cell? ⟨bl, 0, none⟩ = some (.int .i64 a) := (blk_cell HLk.out 0).trans rfl
   have l1 : wr.cell? ⟨bl, 1, none⟩ = some (.int .i64 b) := (blk_cell HLk.out 1).trans rfl
   cases gk with
   | zero => exact absurd HK.out (by have := HL.out; omega)
   | succ k1 =>
   cases hxa : (xa == a) with
   | false =>
    clear hno'
    go_wp2_with fail
    go_quiet (fail)
    go_wp2_with fail
    go_roundg k1
    case measure => have := HK.out; omega
    case rel => exact ⟨k + 1, (by first | rfl | rw [hw1]), ⟨by have := HK.out; have := oT hlt; omega⟩, ⟨pw_below_drewN HB.out _⟩, HO, HLk⟩
   | true =>
    have hxb : (xb == b) = false := by cases h : (xb == b) <;> simp [hxa, h] at hno' ⊢
    clear hno'
    go_wp2_with fail
    go_quiet (fail)
    go_wp2_with fail
    go_roundg k1
    case measure => have := HK.out; omega
    case rel => exact ⟨k + 1, (by first | rfl | rw [hw1]), ⟨by have := HK.out; have := oT hlt; omega⟩, ⟨pw_below_drewN HB.out _⟩, HO, HLk⟩
  ·have hlt : decide (k < i) = false := dF hk
   obtain ⟨x0, x1, x2, x3, x4, x5, x6, x7, x8, x9, x10, x11, x12⟩ := cellsK13 HO.out
   obtain ⟨l0, l1, l2, l3, l4, l5⟩ := cellsK6 HLk.out
   go_wp2_with fail
   refine (ends_no A0 c0 P (some ad1) c1 L a2 a3 a4 a5 a6 a7 a8 a9 a10 a11 a12 i a p0 p1 _ (Kd.C_below HR0.out HB.out) HC0.out (Kd.C_below HR1.out HB.out) HC1.out HL.out.1 HL.out.2.1 HL.out.2.2.1 HQ.out.s0).mono ?_
   rintro e w5 ⟨rfl, hb⟩
   clear x0 x1 x2 x3 x4 x5 x6 x7 x8 x9 x10 x11 x12 l0 l1 l2 l3 l4 l5
   have HB5 := am (below_step HB.out hb)
   have HO5 := am ((hb.block bx (blk_lt HO.out)).trans HO.out)
   have HLk5 := am ((hb.block bl (blk_lt HLk.out)).trans HLk.out)
   clear hb
   obtain ⟨x0, x1, x2, x3, x4, x5, x6, x7, x8, x9, x10, x11, x12⟩ := cellsK13 HO5.out
   obtain ⟨l0, l1, l2, l3, l4, l5⟩ := cellsK6 HLk5.out
   go_wp2_with fail
   refine (ends_no A0 c0 P (some ad1) c1 L a2 a3 a4 a5 a6 a7 a8 a9 a10 a11 a12 i b q0 q1 _ (Kd.C_below HR0.out HB5.out) HC0.out (Kd.C_below HR1.out HB5.out) HC1.out HL.out.1 HL.out.2.1 HL.out.2.2.1 HQ.out.s1).mono ?_
   rintro e w6 ⟨rfl, hb⟩
   clear x0 x1 x2 x3 x4 x5 x6 x7 x8 x9 x10 x11 x12 l0 l1 l2 l3 l4 l5
   have HB6 := am (below_step HB5.out hb)
   have HO6 := am ((hb.block bx (blk_lt HO5.out)).trans HO5.out)
   have HLk6 := am ((hb.block bl (blk_lt HLk5.out)).trans HLk5.out)
   clear hb
   go_wp2_with fail
   go_ret
   exact ⟨rfl, HB6.out⟩
set_option maxHeartbeats 8000000 in
set_option maxRecDepth 10000 in
theorem rcheck_yes (A0 : Option Addr) (c0 : Nat) (P : List S68) (A1 : Option Addr) (c1 : Nat) (L : List S71) (a2 a3 a4 a5 a6 a7 a8 a9 a10 a11 a12 : Int) (d : List Int) (w : World) (hr0 : Kd.C k68 w A0 P.length P) (hc0 : P.length ≤ c0) (hr1 : Kd.C k71 w A1 L.length L) (hc1 : L.length ≤ c1) (hn : NetOk P L) (hd : dr5_dists.f 100 P L a2 a3 a4 a5 a6 a7 a8 a9 a10 a11 a12 0 = some d) (hp : ∀ x, x ∈ d → 0 ≤ x) (hdl : d.length ≤ 6) :
  Calls Tryz.prog 75 #[.agg #[.slice A0 P.length c0, .slice A1 L.length c1, .int .i64 a2, .int .i64 a3, .int .i64 a4, .int .i64 a5, .int .i64 a6, .int .i64 a7, .int .i64 a8, .int .i64 a9, .int .i64 a10, .int .i64 a11, .int .i64 a12]] w fun e w' => e = .returned (.tuple #[.int .i64 0, .int .i64 0]) ∧ Below w.heap.size w w' := by
 have HR0 := am hr0
 have HR1 := am hr1
 have HC0 := am hc0
 have HC1 := am hc1
 have HN := am hn
 have HD := am hd
 have HP := am hp
 have HDL := am hdl
 have hd1 : decide ((P.length : Int) < 1) = false := dF (by have := hn.p1; omega)
 have hd6 : decide ((6 : Int) < (P.length : Int)) = false := dF (by have := hn.p6; omega)
 have hd10 : decide ((10 : Int) < (L.length : Int)) = false := dF (by have := hn.l10; omega)
 clear hr0 hr1 hc0 hc1 hn hd hp hdl
 go_enter Tryz.func75, Tryz.ntmps75
 go_upto_region 1 with fail
 have HO : Aside0 ((w.alloc (.cells #[.slice A0 P.length c0, .slice A1 L.length c1, .int .i64 a2, .int .i64 a3, .int .i64 a4, .int .i64 a5, .int .i64 a6, .int .i64 a7, .int .i64 a8, .int .i64 a9, .int .i64 a10, .int .i64 a11, .int .i64 a12] 25)).heap[w.heap.size]? = some (.cells #[.slice A0 P.length c0, .slice A1 L.length c1, .int .i64 a2, .int .i64 a3, .int .i64 a4, .int .i64 a5, .int .i64 a6, .int .i64 a7, .int .i64 a8, .int .i64 a9, .int .i64 a10, .int .i64 a11, .int .i64 a12] 25)) := ⟨heap_alloc_new _ _⟩
 have HB := am (below_alloc (Below.refl w.heap.size w) (Obj.cells #[.slice A0 P.length c0, .slice A1 L.length c1, .int .i64 a2, .int .i64 a3, .int .i64 a4, .int .i64 a5, .int .i64 a6, .int .i64 a7, .int .i64 a8, .int .i64 a9, .int .i64 a10, .int .i64 a11, .int .i64 a12] 25))
 generalize w.alloc (.cells #[.slice A0 P.length c0, .slice A1 L.length c1, .int .i64 a2, .int .i64 a3, .int .i64 a4, .int .i64 a5, .int .i64 a6, .int .i64 a7, .int .i64 a8, .int .i64 a9, .int .i64 a10, .int .i64 a11, .int .i64 a12] 25) = wa at *
 obtain ⟨bx, hbx⟩ : ∃ bx, bx = w.heap.size := ⟨_, rfl⟩
 rw [← hbx]
 rw [← hbx] at HO
 clear hbx
 have xa0 : wa.cell? ⟨bx, 0, none⟩ = some (.slice A0 P.length c0) := (blk_cell HO.out 0).trans rfl
 go_wp2_with fail
 clear xa0 hd1 hd6
 go_loopg [4] (P.length + 1) (fun kq v4 w' => ∃ i : Int, v4 = .int .i64 i ∧ Aside0 (kq + i = P.length + 1 ∧ 0 ≤ i) ∧ Aside0 (Below w.heap.size w w') ∧ Aside0 (w'.heap[bx]? = some (.cells #[.slice A0 P.length c0, .slice A1 L.length c1, .int .i64 a2, .int .i64 a3, .int .i64 a4, .int .i64 a5, .int .i64 a6, .int .i64 a7, .int .i64 a8, .int .i64 a9, .int .i64 a10, .int .i64 a11, .int .i64 a12] 25)))
 case atStart => exact ⟨0, rfl, ⟨by omega⟩, HB, HO⟩
 case round =>
  clear HB HO
  obtain ⟨i, rfl, HK, HB, HO⟩ := hrel
  have xa0 : wr.cell? ⟨bx, 0, none⟩ = some (.slice A0 P.length c0) := (blk_cell HO.out 0).trans rfl
  have xa1 : wr.cell? ⟨bx, 1, none⟩ = some (.slice A1 L.length c1) := (blk_cell HO.out 1).trans rfl
  by_cases hi1 : i < (P.length : Int)
  ·have hi0 := HK.out.2
   obtain ⟨ad0, e0, y0, y1⟩ := at_T68 (Kd.C_below HR0.out HB.out) i hi0 hi1
   cases e0
   have HQ := am (HN.out.parts i hi0 hi1)
   obtain ⟨n, f, hx⟩ : ∃ n f, rd_T68 P i = ⟨n, f⟩ := ⟨_, _, rfl⟩
   rw [hx] at y0 y1 HQ
   clear hx
   dsimp only at y0 y1
   have HQ' : Aside0 (1 ≤ n ∧ n ≤ 12 ∧ 0 ≤ f ∧ f ≤ 3 ∧ 3 * f + 1 ≤ n) := ⟨HQ.out⟩
   have hlt : decide (i < (P.length : Int)) = true := dT hi1
   have p0_ := eq_true hi0
   have p1_ := eq_true hi1
   have hw1 : wrap64 (i + 1) = i + 1 := by have := HN.out.p6; unfold wrap64; omega
   have t1 : decide (n < 1) = false := dF (by have := HQ'.out; omega)
   have t2 : decide (12 < n) = false := dF (by have := HQ'.out; omega)
   have t3 : decide (f < 0) = false := dF (by have := HQ'.out; omega)
   have t4 : decide (3 < f) = false := dF (by have := HQ'.out; omega)
   have t5 : wrap64 (3 * f) = 3 * f := by have := HQ'.out; unfold wrap64; omega
   have t6 : wrap64 (3 * f + 1) = 3 * f + 1 := by have := HQ'.out; unfold wrap64; omega
   have t7 : decide (n < 3 * f + 1) = false := dF (by have := HQ'.out; omega)
   cases gk with
   | zero => exact absurd HK.out (by omega)
   | succ k1 =>
   go_wp2_with fail
   go_roundg k1
   case measure => have := HK.out; omega
   case rel => exact ⟨i + 1, (by first | rfl | rw [hw1]), ⟨by have := HK.out; omega⟩, ⟨by repeat (first | exact HB.out | apply below_alloc)⟩, ⟨((below_alloc (Below.refl wr.heap.size wr) _).block bx (blk_lt HO.out)).trans HO.out⟩⟩
  ·have hlt : decide (i < (P.length : Int)) = false := dF hi1
   go_wp2_with fail
   clear xa0 xa1 hd10 hlt
   go_loopg [6] (L.length + 1) (fun kq v6 w' => ∃ i : Int, v6 = .int .i64 i ∧ Aside0 (kq + i = L.length + 1 ∧ 0 ≤ i) ∧ Aside0 (Below w.heap.size w w') ∧ Aside0 (w'.heap[bx]? = some (.cells #[.slice A0 P.length c0, .slice A1 L.length c1, .int .i64 a2, .int .i64 a3, .int .i64 a4, .int .i64 a5, .int .i64 a6, .int .i64 a7, .int .i64 a8, .int .i64 a9, .int .i64 a10, .int .i64 a11, .int .i64 a12] 25)))
   case atStart => exact ⟨0, rfl, ⟨by omega⟩, HB, HO⟩
   case round =>
    clear HB HO HK hi1
    obtain ⟨i, rfl, HK, HB, HO⟩ := hrel
    obtain ⟨x0, x1, x2, x3, x4, x5, x6, x7, x8, x9, x10, x11, x12⟩ := cellsK13 HO.out
    by_cases hi1 : i < (L.length : Int)
    ·have hi0 := HK.out.2
     have hlt : decide (i < (L.length : Int)) = true := dT hi1
     have hw1 : wrap64 (i + 1) = i + 1 := by have := HN.out.l10; unfold wrap64; omega
     cases gk with
     | zero => exact absurd HK.out (by omega)
     | succ k1 =>
     go_wp2_with fail
     refine (rlink_yes A0 c0 P A1 c1 L a2 a3 a4 a5 a6 a7 a8 a9 a10 a11 a12 i _ _ (Kd.C_below HR0.out HB.out) HC0.out (Kd.C_below HR1.out HB.out) HC1.out (by have := HN.out.l10; omega) hi0 hi1 rfl (HN.out.links i hi0 hi1)).mono ?_
     rintro e w2 ⟨rfl, hb⟩
     clear x0 x1 x2 x3 x4 x5 x6 x7 x8 x9 x10 x11 x12
     have HB2 := am (below_step HB.out hb)
     have HO2 := am ((hb.block bx (blk_lt HO.out)).trans HO.out)
     clear hb
     go_wp2_with fail
     go_roundg k1
     case measure => have := HK.out; omega
     case rel => exact ⟨i + 1, (by first | rfl | rw [hw1]), ⟨by have := HK.out; omega⟩, HB2, HO2⟩
    ·have hlt : decide (i < (L.length : Int)) = false := dF hi1
     go_wp2_with fail
     refine (dr5_dists.calls 100 A0 c0 P A1 c1 L a2 a3 a4 a5 a6 a7 a8 a9 a10 a11 a12 0 d _ (Kd.C_below HR0.out HB.out) HC0.out (Kd.C_below HR1.out HB.out) HC1.out HD.out).mono ?_
     rintro e w4 ⟨v4, rfl, ho4, hb⟩
     obtain ⟨A4, c4, rfl⟩ := Kd.R_slice ho4
     have R4 := am (Kd.R_reads' ho4).2.2
     clear ho4
     clear x0 x1 x2 x3 x4 x5 x6 x7 x8 x9 x10 x11 x12
     have HB4 := am (below_step HB.out hb)
     have HO4 := am ((hb.block bx (blk_lt HO.out)).trans HO.out)
     clear hb
     go_wp2_with fail
     clear hlt
     go_loopg [9] (d.length + 1) (fun kq v9 w' => ∃ i : Int, v9 = .int .i64 i ∧ Aside0 (kq + i = d.length + 1 ∧ 0 ≤ i) ∧ Aside0 (Below w4.heap.size w4 w'))
     case atStart => exact ⟨0, rfl, ⟨by omega⟩, ⟨Below.refl _ _⟩⟩
     case round =>
      clear HK hi1
      obtain ⟨i, rfl, HK, HBx⟩ := hrel
      by_cases hi1 : i < (d.length : Int)
      ·have hi0 := HK.out.2
       obtain ⟨ad4, e4, y0⟩ := Kd.at_int (Kd.C_below R4.out HBx.out) i hi0 hi1
       cases e4
       have hlt : decide (i < (d.length : Int)) = true := dT hi1
       have p0_ := eq_true hi0
       have p1_ := eq_true hi1
       have hw1 : wrap64 (i + 1) = i + 1 := by have := HDL.out; unfold wrap64; omega
       have hge : decide (rd d i < 0) = false := dF (by
        have hm : rd d i ∈ d := by
         have hlt' : i.toNat < d.length := by omega
         have e : rd d i = d[i.toNat] := by simp [rd, List.getD_eq_getElem?_getD, hlt']
         rw [e]; exact List.getElem_mem hlt'
        have := HP.out _ hm; omega)
       cases gk with
       | zero => exact absurd HK.out (by omega)
       | succ k1 =>
       go_wp2_with fail
       go_roundg k1
       case measure => have := HK.out; omega
       case rel => exact ⟨i + 1, (by first | rfl | rw [hw1]), ⟨by have := HK.out; omega⟩, HBx⟩
      ·have hlt : decide (i < (d.length : Int)) = false := dF hi1
       go_wp2_with fail
       go_ret2
       exact ⟨rfl, below_step HB4.out HBx.out⟩
set_option maxHeartbeats 4000000 in
set_option maxRecDepth 4000 in
theorem good_yes (A0 : Option Addr) (c0 : Nat) (P : List S68) (A1 : Option Addr) (c1 : Nat) (L : List S71) (a2 a3 a4 a5 a6 a7 a8 a9 a10 a11 a12 : Int) (part : Int) (d : List Int) (w : World) (hr0 : Kd.C k68 w A0 P.length P) (hc0 : P.length ≤ c0) (hr1 : Kd.C k71 w A1 L.length L) (hc1 : L.length ≤ c1) (hn : NetOk P L) (hd : dr5_dists.f 100 P L a2 a3 a4 a5 a6 a7 a8 a9 a10 a11 a12 0 = some d) (hp : ∀ x, x ∈ d → 0 ≤ x) (hdl : d.length ≤ 6) (h0 : 0 ≤ part) (h1 : part < P.length) :
  Calls Tryz.prog 71 #[.agg #[.slice A0 P.length c0, .slice A1 L.length c1, .int .i64 a2, .int .i64 a3, .int .i64 a4, .int .i64 a5, .int .i64 a6, .int .i64 a7, .int .i64 a8, .int .i64 a9, .int .i64 a10, .int .i64 a11, .int .i64 a12], .int .i64 part] w fun e w' => e = .returned (.bool true) ∧ Below w.heap.size w w' := by
 have hc := fun (W : World) (hB : Below w.heap.size w W) => rcheck_yes A0 c0 P A1 c1 L a2 a3 a4 a5 a6 a7 a8 a9 a10 a11 a12 d W (Kd.C_below hr0 hB) hc0 (Kd.C_below hr1 hB) hc1 hn hd hp hdl
 have HC := am hc
 have HH := am (And.intro h0 h1)
 clear hc hr0 hr1 hc0 hc1 hn hd hp hdl h0 h1
 go_enter Tryz.func71, Tryz.ntmps71
 go_upto_region 1 with fail
 have HO1 : Aside0 ((w.alloc (.cells #[.slice A0 P.length c0, .slice A1 L.length c1, .int .i64 a2, .int .i64 a3, .int .i64 a4, .int .i64 a5, .int .i64 a6, .int .i64 a7, .int .i64 a8, .int .i64 a9, .int .i64 a10, .int .i64 a11, .int .i64 a12] 25)).heap[w.heap.size]? = some (.cells #[.slice A0 P.length c0, .slice A1 L.length c1, .int .i64 a2, .int .i64 a3, .int .i64 a4, .int .i64 a5, .int .i64 a6, .int .i64 a7, .int .i64 a8, .int .i64 a9, .int .i64 a10, .int .i64 a11, .int .i64 a12] 25)) := ⟨heap_alloc_new _ _⟩
 have HB1 := am (below_alloc (Below.refl w.heap.size w) (Obj.cells #[.slice A0 P.length c0, .slice A1 L.length c1, .int .i64 a2, .int .i64 a3, .int .i64 a4, .int .i64 a5, .int .i64 a6, .int .i64 a7, .int .i64 a8, .int .i64 a9, .int .i64 a10, .int .i64 a11, .int .i64 a12] 25))
 generalize w.alloc (.cells #[.slice A0 P.length c0, .slice A1 L.length c1, .int .i64 a2, .int .i64 a3, .int .i64 a4, .int .i64 a5, .int .i64 a6, .int .i64 a7, .int .i64 a8, .int .i64 a9, .int .i64 a10, .int .i64 a11, .int .i64 a12] 25) = w1 at *
 obtain ⟨bx, hbx⟩ : ∃ bx, bx = w.heap.size := ⟨_, rfl⟩
 rw [← hbx]
 rw [← hbx] at HO1
 clear hbx
 obtain ⟨x0, x1, x2, x3, x4, x5, x6, x7, x8, x9, x10, x11, x12⟩ := cellsK13 HO1.out
 go_wp2_with fail
 refine (HC.out _ HB1.out).mono ?_
 rintro e w2 ⟨rfl, hb⟩
 clear x0 x1 x2 x3 x4 x5 x6 x7 x8 x9 x10 x11 x12
 have HB2 := am (below_step HB1.out hb)
 have HO2 := am ((hb.block bx (blk_lt HO1.out)).trans HO1.out)
 clear hb
 have xa0 : w2.cell? ⟨bx, 0, none⟩ = some (.slice A0 P.length c0) := (blk_cell HO2.out 0).trans rfl
 go_wp2_with fail
 refine (is_yes part (P.length : Int) _ HH.out.1 HH.out.2).mono ?_
 rintro e w3 ⟨rfl, hb⟩
 have HB3 := am (below_step HB2.out hb)
 clear hb
 go_wp2_with fail
 go_ret
 exact ⟨rfl, HB3.out⟩
end Go.Proofs.YtbefbhghmommhaaGreatDoor.MWo
namespace Go.Proofs.YtbefbhghmommhaaGreatDoor.MWo
open Go.RowKit Go.Proofs.YtbefbhghmommhaaGreatDoorW.PrintWords Go.Proofs.YtbefbhghmommhaaGreatDoorW.PrintLast Go.Proofs.YtbefbhghmommhaaGreatDoorW.PrintMore
attribute [local go_sem] mp_u32s mp_u32m mp_u8s mp_u8m max2_int min2_int max_two min_two max_three min_three max_four min_four
set_option linter.unusedVariables false
set_option linter.unusedSimpArgs false
def dr5_Good.f (l0_0 : List S68) (l0_1 : List S71) (a0_2 a0_3 a0_4 a0_5 a0_6 a0_7 a0_8 a0_9 a0_10 a0_11 a0_12 : Int) (a1 : Int) : Option Bool := if netB l0_0 l0_1 = true ∧ 0 ≤ a1 ∧ a1 < (l0_0.length : Int) then (dr5_dists.f 100 l0_0 l0_1 a0_2 a0_3 a0_4 a0_5 a0_6 a0_7 a0_8 a0_9 a0_10 a0_11 a0_12 0).bind fun d => if d.length ≤ 6 ∧ d.all (fun x => decide (0 ≤ x)) = true then some true else none else none
theorem dr5_Good.calls (A0_0 : Option Addr) (c0_0 : Nat) (l0_0 : List S68) (A0_1 : Option Addr) (c0_1 : Nat) (l0_1 : List S71) (a0_2 a0_3 a0_4 a0_5 a0_6 a0_7 a0_8 a0_9 a0_10 a0_11 a0_12 : Int) (a1 : Int) (r : Bool) (w : World) (hr0_0 : Kd.C k68 w A0_0 l0_0.length l0_0) (hc0_0 : l0_0.length ≤ c0_0) (hr0_1 : Kd.C k71 w A0_1 l0_1.length l0_1) (hc0_1 : l0_1.length ≤ c0_1) (h : dr5_Good.f l0_0 l0_1 a0_2 a0_3 a0_4 a0_5 a0_6 a0_7 a0_8 a0_9 a0_10 a0_11 a0_12 a1 = some r) :
  Calls Tryz.prog 71 #[.agg #[.slice A0_0 l0_0.length c0_0, .slice A0_1 l0_1.length c0_1, .int .i64 a0_2, .int .i64 a0_3, .int .i64 a0_4, .int .i64 a0_5, .int .i64 a0_6, .int .i64 a0_7, .int .i64 a0_8, .int .i64 a0_9, .int .i64 a0_10, .int .i64 a0_11, .int .i64 a0_12], .int .i64 a1] w fun e w' => e = .returned (.bool r) ∧ Below w.heap.size w w' := by
 unfold dr5_Good.f at h
 split at h
 ·rename_i hn
  obtain ⟨hn1, hn2, hn3⟩ := hn
  obtain ⟨d, hd, h⟩ := bS h
  split at h
  ·rename_i he
   injection h with h
   subst h
   exact good_yes A0_0 c0_0 l0_0 A0_1 c0_1 l0_1 a0_2 a0_3 a0_4 a0_5 a0_6 a0_7 a0_8 a0_9 a0_10 a0_11 a0_12 a1 d w hr0_0 hc0_0 hr0_1 hc0_1 (netB_ok hn1) hd (fun x hx => oT (List.all_eq_true.mp he.2 x hx)) he.1 hn2 hn3
  ·cases h
 ·cases h
end Go.Proofs.YtbefbhghmommhaaGreatDoor.MWo
set_option linter.unusedVariables false
set_option linter.unusedSimpArgs false
set_option maxRecDepth 100000
namespace Go.Proofs.YtbefbhghmommhaaGreatDoor.MWo
open Go.RowKit Go.Proofs.YtbefbhghmommhaaGreatDoorW.PrintWords Go.Proofs.YtbefbhghmommhaaGreatDoorW.PrintLast Go.Proofs.YtbefbhghmommhaaGreatDoorW.PrintMore
def rangeOk (a2 a6 a7 a8 a9 : Int) : Prop := 1000 ≤ a2 ∧ a2 ≤ 1000000 ∧ 0 ≤ a6 ∧ a6 ≤ 500 ∧ 0 ≤ a7 ∧ a7 ≤ 400000 ∧ 1 ≤ a8 ∧ a8 ≤ 200 ∧ 0 ≤ a9 ∧ a9 ≤ 20
instance (a2 a6 a7 a8 a9 : Int) : Decidable (rangeOk a2 a6 a7 a8 a9) := by unfold rangeOk; infer_instance
set_option maxHeartbeats 4000000 in
theorem out_walk (vP vQ : Option Nat) (a2 a3 a4 a5 a6 a7 a8 a9 a10 a11 a12 : Int) (A0 A1 : Option Addr) (n0 n1 c0 c1 : Nat) (w : World) (h : rangeOk a2 a6 a7 a8 a9) :
  Calls Tryz.prog 72 #[.agg #[.slice A0 n0 c0, .slice A1 n1 c1, .int .i64 a2, .int .i64 a3, .int .i64 a4, .int .i64 a5, .int .i64 a6, .int .i64 a7, .int .i64 a8, .int .i64 a9, .int .i64 a10, .int .i64 a11, .int .i64 a12]] w fun e w' => e = .returned (.int .i64 0) ∧ Below w.heap.size w w' := by
 obtain ⟨h1, h2, h3, h4, h5, h6, h7, h8, h9, h10⟩ := h
 have d1 : decide (a2 < 1000) = false := dF (by omega)
 have d2 : decide (1000000 < a2) = false := dF (by omega)
 have d3 : decide (a6 < 0) = false := dF (by omega)
 have d4 : decide (500 < a6) = false := dF (by omega)
 have d5 : decide (a7 < 0) = false := dF (by omega)
 have d6 : decide (400000 < a7) = false := dF (by omega)
 have d7 : decide (a8 < 1) = false := dF (by omega)
 have d8 : decide (200 < a8) = false := dF (by omega)
 have d9 : decide (a9 < 0) = false := dF (by omega)
 have d10 : decide (20 < a9) = false := dF (by omega)
 have kb := below_alloc (Below.refl w.heap.size w) (.cells #[.slice A0 n0 c0, .slice A1 n1 c1, .int .i64 a2, .int .i64 a3, .int .i64 a4, .int .i64 a5, .int .i64 a6, .int .i64 a7, .int .i64 a8, .int .i64 a9, .int .i64 a10, .int .i64 a11, .int .i64 a12] 25)
 have HB := am kb
 have HC := am (heap_alloc_new w (.cells #[.slice A0 n0 c0, .slice A1 n1 c1, .int .i64 a2, .int .i64 a3, .int .i64 a4, .int .i64 a5, .int .i64 a6, .int .i64 a7, .int .i64 a8, .int .i64 a9, .int .i64 a10, .int .i64 a11, .int .i64 a12] 25))
 clear kb h1 h2 h3 h4 h5 h6 h7 h8 h9 h10
 go_enter Tryz.func72, Tryz.ntmps72
 go_upto_region 1 with fail
 generalize w.alloc (.cells #[.slice A0 n0 c0, .slice A1 n1 c1, .int .i64 a2, .int .i64 a3, .int .i64 a4, .int .i64 a5, .int .i64 a6, .int .i64 a7, .int .i64 a8, .int .i64 a9, .int .i64 a10, .int .i64 a11, .int .i64 a12] 25) = w1 at *
 have x2 : w1.cell? ⟨w.heap.size, 2, none⟩ = some (.int .i64 a2) := (blk_cell HC.out 2).trans rfl
 have x6 : w1.cell? ⟨w.heap.size, 6, none⟩ = some (.int .i64 a6) := (blk_cell HC.out 6).trans rfl
 have x7 : w1.cell? ⟨w.heap.size, 7, none⟩ = some (.int .i64 a7) := (blk_cell HC.out 7).trans rfl
 have x8 : w1.cell? ⟨w.heap.size, 8, none⟩ = some (.int .i64 a8) := (blk_cell HC.out 8).trans rfl
 have x9 : w1.cell? ⟨w.heap.size, 9, none⟩ = some (.int .i64 a9) := (blk_cell HC.out 9).trans rfl
 go_wp2_with fail
 go_ret
 exact ⟨rfl, HB.out⟩
end Go.Proofs.YtbefbhghmommhaaGreatDoor.MWo
namespace Go.Proofs.YtbefbhghmommhaaGreatDoor.MWo
open Go.RowKit Go.Proofs.YtbefbhghmommhaaGreatDoorW.PrintWords Go.Proofs.YtbefbhghmommhaaGreatDoorW.PrintLast Go.Proofs.YtbefbhghmommhaaGreatDoorW.PrintMore
attribute [local go_sem] mp_u32s mp_u32m mp_u8s mp_u8m max2_int min2_int max_two min_two max_three min_three max_four min_four
set_option linter.unusedVariables false
set_option linter.unusedSimpArgs false
def dr5_out.f (l0_0 : List S68) (l0_1 : List S71) (a0_2 a0_3 a0_4 a0_5 a0_6 a0_7 a0_8 a0_9 a0_10 a0_11 a0_12 : Int) : Option Int := if rangeOk a0_2 a0_6 a0_7 a0_8 a0_9 then some 0 else none
theorem dr5_out.calls (A0_0 : Option Addr) (c0_0 : Nat) (l0_0 : List S68) (A0_1 : Option Addr) (c0_1 : Nat) (l0_1 : List S71) (a0_2 a0_3 a0_4 a0_5 a0_6 a0_7 a0_8 a0_9 a0_10 a0_11 a0_12 : Int) (r : Int) (w : World) (hr0_0 : Kd.C k68 w A0_0 l0_0.length l0_0) (hc0_0 : l0_0.length ≤ c0_0) (hr0_1 : Kd.C k71 w A0_1 l0_1.length l0_1) (hc0_1 : l0_1.length ≤ c0_1) (h : dr5_out.f l0_0 l0_1 a0_2 a0_3 a0_4 a0_5 a0_6 a0_7 a0_8 a0_9 a0_10 a0_11 a0_12 = some r) :
  Calls Tryz.prog 72 #[.agg #[.slice A0_0 l0_0.length c0_0, .slice A0_1 l0_1.length c0_1, .int .i64 a0_2, .int .i64 a0_3, .int .i64 a0_4, .int .i64 a0_5, .int .i64 a0_6, .int .i64 a0_7, .int .i64 a0_8, .int .i64 a0_9, .int .i64 a0_10, .int .i64 a0_11, .int .i64 a0_12]] w fun e w' => e = .returned (.int .i64 r) ∧ Below w.heap.size w w' := by
 unfold dr5_out.f at h
 split at h
 ·rename_i hc
  injection h with h
  subst h
  exact out_walk none none a0_2 a0_3 a0_4 a0_5 a0_6 a0_7 a0_8 a0_9 a0_10 a0_11 a0_12 A0_0 A0_1 _ _ c0_0 c0_1 w hc
 ·cases h
def dr5_ranged.f (l0_0 : List (S68)) (l0_1 : List (S71)) (a0_2 : Int) (a0_3 : Int) (a0_4 : Int) (a0_5 : Int) (a0_6 : Int) (a0_7 : Int) (a0_8 : Int) (a0_9 : Int) (a0_10 : Int) (a0_11 : Int) (a0_12 : Int) : Option (Bool) := (dr5_Good.f l0_0 l0_1 a0_2 a0_3 a0_4 a0_5 a0_6 a0_7 a0_8 a0_9 a0_10 a0_11 a0_12 0).bind fun t250 => (if t250 = true then ((dr5_out.f l0_0 l0_1 a0_2 a0_3 a0_4 a0_5 a0_6 a0_7 a0_8 a0_9 a0_10 a0_11 a0_12).bind fun t251 => (some (t251 == 0))) else (some false))
set_option maxHeartbeats 8000000 in
set_option maxRecDepth 100000 in
theorem dr5_ranged.calls (A0_0 : Option Addr) (c0_0 : Nat) (l0_0 : List (S68)) (A0_1 : Option Addr) (c0_1 : Nat) (l0_1 : List (S71)) (a0_2 : Int) (a0_3 : Int) (a0_4 : Int) (a0_5 : Int) (a0_6 : Int) (a0_7 : Int) (a0_8 : Int) (a0_9 : Int) (a0_10 : Int) (a0_11 : Int) (a0_12 : Int) (r : Bool) (w : World) (hr0_0 : Kd.C k68 w A0_0 l0_0.length l0_0) (hc0_0 : l0_0.length ≤ c0_0) (hr0_1 : Kd.C k71 w A0_1 l0_1.length l0_1) (hc0_1 : l0_1.length ≤ c0_1) (h : dr5_ranged.f l0_0 l0_1 a0_2 a0_3 a0_4 a0_5 a0_6 a0_7 a0_8 a0_9 a0_10 a0_11 a0_12 = some r) :
  Calls Tryz.prog 55 #[.agg #[.slice A0_0 l0_0.length c0_0, .slice A0_1 l0_1.length c0_1, .int .i64 a0_2, .int .i64 a0_3, .int .i64 a0_4, .int .i64 a0_5, .int .i64 a0_6, .int .i64 a0_7, .int .i64 a0_8, .int .i64 a0_9, .int .i64 a0_10, .int .i64 a0_11, .int .i64 a0_12]] w fun e w' => e = .returned (.bool r) ∧ Below w.heap.size w w' := by
 have hu25 := Tryz.underlying25
 have HR0_0 := am hr0_0
 have HC0_0 := am hc0_0
 clear hr0_0 hc0_0
 have HR0_1 := am hr0_1
 have HC0_1 := am hc0_1
 clear hr0_1 hc0_1
 have HB := am (Below.refl w.heap.size w)
 have H : ((dr5_Good.f l0_0 l0_1 a0_2 a0_3 a0_4 a0_5 a0_6 a0_7 a0_8 a0_9 a0_10 a0_11 a0_12 0).bind fun t250 => (if t250 = true then ((dr5_out.f l0_0 l0_1 a0_2 a0_3 a0_4 a0_5 a0_6 a0_7 a0_8 a0_9 a0_10 a0_11 a0_12).bind fun t251 => (some (t251 == 0))) else (some false))) = some r := h
 clear h
 replace H := bS H
 obtain ⟨t250, A20, H⟩ := H
 replace H : (if t250 = true then ((dr5_out.f l0_0 l0_1 a0_2 a0_3 a0_4 a0_5 a0_6 a0_7 a0_8 a0_9 a0_10 a0_11 a0_12).bind fun t251 => (some (t251 == 0))) else (some false)) = some r := H
 have A2 := am A20
 clear A20
 by_cases c3 : t250 = true
 ·subst c3
  have H1 : ((dr5_out.f l0_0 l0_1 a0_2 a0_3 a0_4 a0_5 a0_6 a0_7 a0_8 a0_9 a0_10 a0_11 a0_12).bind fun t251 => (some (t251 == 0))) = some r := by rw [if_pos rfl] at H; exact H
  clear H
  have H := H1
  clear H1
  replace H := bS H
  obtain ⟨t251, A40, H⟩ := H
  replace H : (some (t251 == 0)) = some r := H
  have A4 := am A40
  clear A40
  obtain rfl := Option.some.inj H
  go_enter Tryz.func55, Tryz.ntmps55
  go_wp2_with (first | ((with_reducible refine gate_dst (N := 1) rfl ?_); refine bxe 1 #[.slice A0_0 l0_0.length c0_0, .slice A0_1 l0_1.length c0_1, .int .i64 a0_2, .int .i64 a0_3, .int .i64 a0_4, .int .i64 a0_5, .int .i64 a0_6, .int .i64 a0_7, .int .i64 a0_8, .int .i64 a0_9, .int .i64 a0_10, .int .i64 a0_11, .int .i64 a0_12] 25 ?_; intro gb249 hg w5 hbox hb; have n0_ := am (below_step bl0 hb); have n1_ := am (hbox); have n2_ := am (gw0 hg); have n3_ := am (gw0 hg); clear HB; have HB := n0_; have BK249 := n1_; have GW249 := n2_; have GE249 := n3_; clear n0_ n1_ n2_ n3_; clear hb hbox hg; obtain ⟨hcz6_0, hcz6_1, hcz6_2, hcz6_3, hcz6_4, hcz6_5, hcz6_6, hcz6_7, hcz6_8, hcz6_9, hcz6_10, hcz6_11, hcz6_12⟩ := cellsK13 BK249.out; obtain ⟨hfz6_0, hfz6_1, hfz6_2, hfz6_3, hfz6_4, hfz6_5, hfz6_6, hfz6_7, hfz6_8, hfz6_9, hfz6_10, hfz6_11, hfz6_12⟩ := frozK13 BK249.out) | ((with_reducible refine gate_callee (f := 71) rfl ?_); refine goesL_ (some 4) rfl rfl Tryz.func71 (by kernel_rfl) rfl #[.agg #[.slice A0_0 l0_0.length c0_0, .slice A0_1 l0_1.length c0_1, .int .i64 a0_2, .int .i64 a0_3, .int .i64 a0_4, .int .i64 a0_5, .int .i64 a0_6, .int .i64 a0_7, .int .i64 a0_8, .int .i64 a0_9, .int .i64 a0_10, .int .i64 a0_11, .int .i64 a0_12], .int .i64 0] rfl lm ?_; (with_reducible refine (dr5_Good.calls _ _ l0_0 _ _ l0_1 a0_2 a0_3 a0_4 a0_5 a0_6 a0_7 a0_8 a0_9 a0_10 a0_11 a0_12 0 true _ ?side1 ?side2 ?side3 ?side4 A2.out).mono ?_); (case side1 => exact kc HR0_0); (case side2 => exact HC0_0.out); (case side3 => exact kc HR0_1); (case side4 => exact HC0_1.out); rintro e w7 ⟨rfl, hb⟩; refine ⟨_, rfl, ?_⟩; have n0_ := am (blk_below (bk BK249) hb); have n1_ := am (below_step (bl1 GE249) hb); clear BK249; clear HB; have BK249 := n0_; have HB := n1_; clear n0_ n1_; (try clear hb); (try clear hb2); (try clear hk); (try clear hi); obtain ⟨hcz8_0, hcz8_1, hcz8_2, hcz8_3, hcz8_4, hcz8_5, hcz8_6, hcz8_7, hcz8_8, hcz8_9, hcz8_10, hcz8_11, hcz8_12⟩ := cellsK13 BK249.out; obtain ⟨hfz8_0, hfz8_1, hfz8_2, hfz8_3, hfz8_4, hfz8_5, hfz8_6, hfz8_7, hfz8_8, hfz8_9, hfz8_10, hfz8_11, hfz8_12⟩ := frozK13 BK249.out) | (go_at_call 72; (with_reducible refine (dr5_out.calls _ _ l0_0 _ _ l0_1 a0_2 a0_3 a0_4 a0_5 a0_6 a0_7 a0_8 a0_9 a0_10 a0_11 a0_12 t251 _ ?side1 ?side2 ?side3 ?side4 A4.out).mono ?_); (case side1 => exact kc HR0_0); (case side2 => exact HC0_0.out); (case side3 => exact kc HR0_1); (case side4 => exact HC0_1.out); rintro e w9 ⟨rfl, hb⟩; have n0_ := am (blk_below (bk BK249) hb); have n1_ := am (below_step (bl1 GE249) hb); clear BK249; clear HB; have BK249 := n0_; have HB := n1_; clear n0_ n1_; (try clear hb); (try clear hb2); (try clear hk); (try clear hi)))
  go_ret
  exact ⟨ew, bl1 GE249⟩
 ·replace c3 := Bool.eq_false_iff.mpr c3
  subst c3
  have H1 : (some false) = some r := by rw [if_neg (show ¬ (false = true) by decide)] at H; exact H
  clear H
  have H := H1
  clear H1
  obtain rfl := Option.some.inj H
  go_enter Tryz.func55, Tryz.ntmps55
  go_wp2_with (first | ((with_reducible refine gate_dst (N := 1) rfl ?_); refine bxe 1 #[.slice A0_0 l0_0.length c0_0, .slice A0_1 l0_1.length c0_1, .int .i64 a0_2, .int .i64 a0_3, .int .i64 a0_4, .int .i64 a0_5, .int .i64 a0_6, .int .i64 a0_7, .int .i64 a0_8, .int .i64 a0_9, .int .i64 a0_10, .int .i64 a0_11, .int .i64 a0_12] 25 ?_; intro gb249 hg w10 hbox hb; have n0_ := am (below_step bl0 hb); have n1_ := am (hbox); have n2_ := am (gw0 hg); have n3_ := am (gw0 hg); clear HB; have HB := n0_; have BK249 := n1_; have GW249 := n2_; have GE249 := n3_; clear n0_ n1_ n2_ n3_; clear hb hbox hg; obtain ⟨hcz11_0, hcz11_1, hcz11_2, hcz11_3, hcz11_4, hcz11_5, hcz11_6, hcz11_7, hcz11_8, hcz11_9, hcz11_10, hcz11_11, hcz11_12⟩ := cellsK13 BK249.out; obtain ⟨hfz11_0, hfz11_1, hfz11_2, hfz11_3, hfz11_4, hfz11_5, hfz11_6, hfz11_7, hfz11_8, hfz11_9, hfz11_10, hfz11_11, hfz11_12⟩ := frozK13 BK249.out) | ((with_reducible refine gate_callee (f := 71) rfl ?_); refine goesL_ (some 4) rfl rfl Tryz.func71 (by kernel_rfl) rfl #[.agg #[.slice A0_0 l0_0.length c0_0, .slice A0_1 l0_1.length c0_1, .int .i64 a0_2, .int .i64 a0_3, .int .i64 a0_4, .int .i64 a0_5, .int .i64 a0_6, .int .i64 a0_7, .int .i64 a0_8, .int .i64 a0_9, .int .i64 a0_10, .int .i64 a0_11, .int .i64 a0_12], .int .i64 0] rfl lm ?_; (with_reducible refine (dr5_Good.calls _ _ l0_0 _ _ l0_1 a0_2 a0_3 a0_4 a0_5 a0_6 a0_7 a0_8 a0_9 a0_10 a0_11 a0_12 0 false _ ?side1 ?side2 ?side3 ?side4 A2.out).mono ?_); (case side1 => exact kc HR0_0); (case side2 => exact HC0_0.out); (case side3 => exact kc HR0_1); (case side4 => exact HC0_1.out); rintro e w12 ⟨rfl, hb⟩; refine ⟨_, rfl, ?_⟩; have n0_ := am (blk_below (bk BK249) hb); have n1_ := am (below_step (bl1 GE249) hb); clear BK249; clear HB; have BK249 := n0_; have HB := n1_; clear n0_ n1_; (try clear hb); (try clear hb2); (try clear hk); (try clear hi)))
  go_ret
  exact ⟨ew, bl1 GE249⟩
def dr1_Ceil.f (a0 : Int) (a1 : Int) : Option (Int × Bool) := if a1 < 1 then (some (0, false)) else (if a1 = 0 then (none) else (if (Int.tmod a0 a1) > 0 then (some (wrap64 ((wrap64 (Int.tdiv a0 a1)) + 1), true)) else (some (wrap64 (Int.tdiv a0 a1), true))))
set_option maxHeartbeats 8000000 in
set_option maxRecDepth 100000 in
theorem dr1_Ceil.calls (a0 : Int) (a1 : Int) (r1 : Int) (r2 : Bool) (w : World) (h : dr1_Ceil.f a0 a1 = some (r1, r2)) :
  Calls Tryz.prog 81 #[.int .i64 a0, .int .i64 a1] w fun e w' => e = .returned (.tuple #[.int .i64 r1, .bool r2]) ∧ Drawn0 w w' := by
 have H : (if a1 < 1 then (some (0, false)) else (if a1 = 0 then (none) else (if (Int.tmod a0 a1) > 0 then (some (wrap64 ((wrap64 (Int.tdiv a0 a1)) + 1), true)) else (some (wrap64 (Int.tdiv a0 a1), true))))) = some (r1, r2) := h
 clear h
 by_cases c3 : a1 < 1
 ·rw [if_pos c3] at H
  have c3b0 : decide (a1 < 1) = true := dT c3
  clear c3
  simp only [Option.some.injEq, Prod.mk.injEq] at H
  obtain ⟨rfl, rfl⟩ := H
  go_enter Tryz.func81, Tryz.ntmps81
  go_wp2
  go_ret2
  exact ⟨sd, dn⟩
 ·rw [if_neg c3] at H
  have c3b0 : decide (a1 < 1) = false := dF c3
  clear c3
  by_cases c4 : a1 = 0
  ·rw [if_pos c4] at H
   exact absurd H (by simp)
  ·rw [if_neg c4] at H
   have c4b0 : (a1 == 0) = false := beq_eq_false_iff_ne.mpr c4
   have c4b1 : (a1 != 0) = true := bne_iff_ne.mpr c4
   by_cases c5 : (Int.tmod a0 a1) > 0
   ·rw [if_pos c5] at H
    have c5b0 : decide (0 < (Int.tmod a0 a1)) = true := dT c5
    clear c5
    simp only [Option.some.injEq, Prod.mk.injEq] at H
    obtain ⟨rfl, rfl⟩ := H
    go_enter Tryz.func81, Tryz.ntmps81
    go_wp2
    go_ret2
    exact ⟨sd, dn⟩
   ·rw [if_neg c5] at H
    have c5b0 : decide (0 < (Int.tmod a0 a1)) = false := dF c5
    clear c5
    simp only [Option.some.injEq, Prod.mk.injEq] at H
    obtain ⟨rfl, rfl⟩ := H
    go_enter Tryz.func81, Tryz.ntmps81
    go_wp2
    go_ret2
    exact ⟨sd, dn⟩
def dr5_up.f (a0 : Int) : Option (Int) := (dr1_Ceil.f a0 1000000).bind fun bt252 => (some bt252.1)
set_option maxHeartbeats 8000000 in
set_option maxRecDepth 100000 in
theorem dr5_up.calls (a0 : Int) (r : Int) (w : World) (h : dr5_up.f a0 = some r) :
  Calls Tryz.prog 74 #[.int .i64 a0] w fun e w' => e = .returned (.int .i64 r) ∧ Drawn0 w w' := by
 have H : ((dr1_Ceil.f a0 1000000).bind fun bt252 => (some bt252.1)) = some r := h
 clear h
 replace H := bS H
 obtain ⟨⟨t252, t253⟩, A20, H⟩ := H
 replace H : (some t252) = some r := H
 have A2 := am A20
 clear A20
 obtain rfl := Option.some.inj H
 go_enter Tryz.func74, Tryz.ntmps74
 go_wp2_with (first | ((with_reducible refine gate_callee (f := 81) rfl ?_); refine goesL_ (some 7) rfl rfl Tryz.func81 (by kernel_rfl) rfl #[.int .i64 a0, .int .i64 1000000] rfl lm ?_; (with_reducible refine (dr1_Ceil.calls a0 1000000 t252 t253 _ A2.out).mono ?_); rintro e w' ⟨rfl, ⟨nd, rfl⟩⟩; refine ⟨_, rfl, ?_⟩))
 go_ret
 exact ⟨sd, dn⟩
def dr5_edge.f (l0_0 : List (S68)) (l0_1 : List (S71)) (a0_2 : Int) (a0_3 : Int) (a0_4 : Int) (a0_5 : Int) (a0_6 : Int) (a0_7 : Int) (a0_8 : Int) (a0_9 : Int) (a0_10 : Int) (a0_11 : Int) (a0_12 : Int) : Option (Int) := (dr5_up.f (wrap64 ((wrap64 (2 * a0_6)) * a0_2))).bind fun t255 => (some (wrap64 (t255 + 1)))
set_option maxHeartbeats 8000000 in
set_option maxRecDepth 100000 in
theorem dr5_edge.calls (A0_0 : Option Addr) (c0_0 : Nat) (l0_0 : List (S68)) (A0_1 : Option Addr) (c0_1 : Nat) (l0_1 : List (S71)) (a0_2 : Int) (a0_3 : Int) (a0_4 : Int) (a0_5 : Int) (a0_6 : Int) (a0_7 : Int) (a0_8 : Int) (a0_9 : Int) (a0_10 : Int) (a0_11 : Int) (a0_12 : Int) (r : Int) (w : World) (hr0_0 : Kd.C k68 w A0_0 l0_0.length l0_0) (hc0_0 : l0_0.length ≤ c0_0) (hr0_1 : Kd.C k71 w A0_1 l0_1.length l0_1) (hc0_1 : l0_1.length ≤ c0_1) (h : dr5_edge.f l0_0 l0_1 a0_2 a0_3 a0_4 a0_5 a0_6 a0_7 a0_8 a0_9 a0_10 a0_11 a0_12 = some r) :
  Calls Tryz.prog 61 #[.agg #[.slice A0_0 l0_0.length c0_0, .slice A0_1 l0_1.length c0_1, .int .i64 a0_2, .int .i64 a0_3, .int .i64 a0_4, .int .i64 a0_5, .int .i64 a0_6, .int .i64 a0_7, .int .i64 a0_8, .int .i64 a0_9, .int .i64 a0_10, .int .i64 a0_11, .int .i64 a0_12]] w fun e w' => e = .returned (.int .i64 r) ∧ Below w.heap.size w w' := by
 have hu25 := Tryz.underlying25
 have HR0_0 := am hr0_0
 have HC0_0 := am hc0_0
 clear hr0_0 hc0_0
 have HR0_1 := am hr0_1
 have HC0_1 := am hc0_1
 clear hr0_1 hc0_1
 have HB := am (Below.refl w.heap.size w)
 have H : ((dr5_up.f (wrap64 ((wrap64 (2 * a0_6)) * a0_2))).bind fun t255 => (some (wrap64 (t255 + 1)))) = some r := h
 clear h
 replace H := bS H
 obtain ⟨t255, A20, H⟩ := H
 replace H : (some (wrap64 (t255 + 1))) = some r := H
 have A2 := am A20
 clear A20
 obtain rfl := Option.some.inj H
 go_enter Tryz.func61, Tryz.ntmps61
 go_wp2_with (first | ((with_reducible refine gate_dst (N := 1) rfl ?_); refine bxe 1 #[.slice A0_0 l0_0.length c0_0, .slice A0_1 l0_1.length c0_1, .int .i64 a0_2, .int .i64 a0_3, .int .i64 a0_4, .int .i64 a0_5, .int .i64 a0_6, .int .i64 a0_7, .int .i64 a0_8, .int .i64 a0_9, .int .i64 a0_10, .int .i64 a0_11, .int .i64 a0_12] 25 ?_; intro gb254 hg w3 hbox hb; have n0_ := am (below_step bl0 hb); have n1_ := am (hbox); have n2_ := am (gw0 hg); have n3_ := am (gw0 hg); clear HB; have HB := n0_; have BK254 := n1_; have GW254 := n2_; have GE254 := n3_; clear n0_ n1_ n2_ n3_; clear hb hbox hg; obtain ⟨hcz4_0, hcz4_1, hcz4_2, hcz4_3, hcz4_4, hcz4_5, hcz4_6, hcz4_7, hcz4_8, hcz4_9, hcz4_10, hcz4_11, hcz4_12⟩ := cellsK13 BK254.out; obtain ⟨hfz4_0, hfz4_1, hfz4_2, hfz4_3, hfz4_4, hfz4_5, hfz4_6, hfz4_7, hfz4_8, hfz4_9, hfz4_10, hfz4_11, hfz4_12⟩ := frozK13 BK254.out) | ((with_reducible refine gate_callee (f := 74) rfl ?_); refine goesL_ (some 9) rfl rfl Tryz.func74 (by kernel_rfl) rfl #[.int .i64 (wrap64 ((wrap64 (2 * a0_6)) * a0_2))] rfl lm ?_; (with_reducible refine (dr5_up.calls (wrap64 ((wrap64 (2 * a0_6)) * a0_2)) t255 _ A2.out).mono ?_); rintro e w' ⟨rfl, ⟨nd, rfl⟩⟩; refine ⟨_, rfl, ?_⟩))
 go_ret
 exact ⟨ew, bl1 GE254⟩
def dr5_Edge.f (l0_0 : List (S68)) (l0_1 : List (S71)) (a0_2 : Int) (a0_3 : Int) (a0_4 : Int) (a0_5 : Int) (a0_6 : Int) (a0_7 : Int) (a0_8 : Int) (a0_9 : Int) (a0_10 : Int) (a0_11 : Int) (a0_12 : Int) : Option (Int) := (dr5_ranged.f l0_0 l0_1 a0_2 a0_3 a0_4 a0_5 a0_6 a0_7 a0_8 a0_9 a0_10 a0_11 a0_12).bind fun t257 => (if t257 = true then ((dr5_edge.f l0_0 l0_1 a0_2 a0_3 a0_4 a0_5 a0_6 a0_7 a0_8 a0_9 a0_10 a0_11 a0_12).bind fun t258 => (some t258)) else (some 0))
set_option maxHeartbeats 8000000 in
set_option maxRecDepth 100000 in
theorem dr5_Edge.calls (A0_0 : Option Addr) (c0_0 : Nat) (l0_0 : List (S68)) (A0_1 : Option Addr) (c0_1 : Nat) (l0_1 : List (S71)) (a0_2 : Int) (a0_3 : Int) (a0_4 : Int) (a0_5 : Int) (a0_6 : Int) (a0_7 : Int) (a0_8 : Int) (a0_9 : Int) (a0_10 : Int) (a0_11 : Int) (a0_12 : Int) (r : Int) (w : World) (hr0_0 : Kd.C k68 w A0_0 l0_0.length l0_0) (hc0_0 : l0_0.length ≤ c0_0) (hr0_1 : Kd.C k71 w A0_1 l0_1.length l0_1) (hc0_1 : l0_1.length ≤ c0_1) (h : dr5_Edge.f l0_0 l0_1 a0_2 a0_3 a0_4 a0_5 a0_6 a0_7 a0_8 a0_9 a0_10 a0_11 a0_12 = some r) :
  Calls Tryz.prog 38 #[.agg #[.slice A0_0 l0_0.length c0_0, .slice A0_1 l0_1.length c0_1, .int .i64 a0_2, .int .i64 a0_3, .int .i64 a0_4, .int .i64 a0_5, .int .i64 a0_6, .int .i64 a0_7, .int .i64 a0_8, .int .i64 a0_9, .int .i64 a0_10, .int .i64 a0_11, .int .i64 a0_12]] w fun e w' => e = .returned (.int .i64 r) ∧ Below w.heap.size w w' := by
 have hu25 := Tryz.underlying25
 have HR0_0 := am hr0_0
 have HC0_0 := am hc0_0
 clear hr0_0 hc0_0
 have HR0_1 := am hr0_1
 have HC0_1 := am hc0_1
 clear hr0_1 hc0_1
 have HB := am (Below.refl w.heap.size w)
 have H : ((dr5_ranged.f l0_0 l0_1 a0_2 a0_3 a0_4 a0_5 a0_6 a0_7 a0_8 a0_9 a0_10 a0_11 a0_12).bind fun t257 => (if t257 = true then ((dr5_edge.f l0_0 l0_1 a0_2 a0_3 a0_4 a0_5 a0_6 a0_7 a0_8 a0_9 a0_10 a0_11 a0_12).bind fun t258 => (some t258)) else (some 0))) = some r := h
 clear h
 replace H := bS H
 obtain ⟨t257, A20, H⟩ := H
 replace H : (if t257 = true then ((dr5_edge.f l0_0 l0_1 a0_2 a0_3 a0_4 a0_5 a0_6 a0_7 a0_8 a0_9 a0_10 a0_11 a0_12).bind fun t258 => (some t258)) else (some 0)) = some r := H
 have A2 := am A20
 clear A20
 by_cases c3 : t257 = true
 ·subst c3
  have H1 : ((dr5_edge.f l0_0 l0_1 a0_2 a0_3 a0_4 a0_5 a0_6 a0_7 a0_8 a0_9 a0_10 a0_11 a0_12).bind fun t258 => (some t258)) = some r := by rw [if_pos rfl] at H; exact H
  clear H
  have H := H1
  clear H1
  replace H := bS H
  obtain ⟨t258, A40, H⟩ := H
  replace H : (some t258) = some r := H
  have A4 := am A40
  clear A40
  obtain rfl := Option.some.inj H
  go_enter Tryz.func38, Tryz.ntmps38
  go_wp2_with (first | ((with_reducible refine gate_dst (N := 1) rfl ?_); refine bxe 1 #[.slice A0_0 l0_0.length c0_0, .slice A0_1 l0_1.length c0_1, .int .i64 a0_2, .int .i64 a0_3, .int .i64 a0_4, .int .i64 a0_5, .int .i64 a0_6, .int .i64 a0_7, .int .i64 a0_8, .int .i64 a0_9, .int .i64 a0_10, .int .i64 a0_11, .int .i64 a0_12] 25 ?_; intro gb256 hg w5 hbox hb; have n0_ := am (below_step bl0 hb); have n1_ := am (hbox); have n2_ := am (gw0 hg); have n3_ := am (gw0 hg); clear HB; have HB := n0_; have BK256 := n1_; have GW256 := n2_; have GE256 := n3_; clear n0_ n1_ n2_ n3_; clear hb hbox hg; obtain ⟨hcz6_0, hcz6_1, hcz6_2, hcz6_3, hcz6_4, hcz6_5, hcz6_6, hcz6_7, hcz6_8, hcz6_9, hcz6_10, hcz6_11, hcz6_12⟩ := cellsK13 BK256.out; obtain ⟨hfz6_0, hfz6_1, hfz6_2, hfz6_3, hfz6_4, hfz6_5, hfz6_6, hfz6_7, hfz6_8, hfz6_9, hfz6_10, hfz6_11, hfz6_12⟩ := frozK13 BK256.out) | ((with_reducible refine gate_callee (f := 55) rfl ?_); refine goesL_ (some 4) rfl rfl Tryz.func55 (by kernel_rfl) rfl #[.agg #[.slice A0_0 l0_0.length c0_0, .slice A0_1 l0_1.length c0_1, .int .i64 a0_2, .int .i64 a0_3, .int .i64 a0_4, .int .i64 a0_5, .int .i64 a0_6, .int .i64 a0_7, .int .i64 a0_8, .int .i64 a0_9, .int .i64 a0_10, .int .i64 a0_11, .int .i64 a0_12]] rfl lm ?_; (with_reducible refine (dr5_ranged.calls _ _ l0_0 _ _ l0_1 a0_2 a0_3 a0_4 a0_5 a0_6 a0_7 a0_8 a0_9 a0_10 a0_11 a0_12 true _ ?side1 ?side2 ?side3 ?side4 A2.out).mono ?_); (case side1 => exact kc HR0_0); (case side2 => exact HC0_0.out); (case side3 => exact kc HR0_1); (case side4 => exact HC0_1.out); rintro e w7 ⟨rfl, hb⟩; refine ⟨_, rfl, ?_⟩; have n0_ := am (blk_below (bk BK256) hb); have n1_ := am (below_step (bl1 GE256) hb); clear BK256; clear HB; have BK256 := n0_; have HB := n1_; clear n0_ n1_; (try clear hb); (try clear hb2); (try clear hk); (try clear hi); obtain ⟨hcz8_0, hcz8_1, hcz8_2, hcz8_3, hcz8_4, hcz8_5, hcz8_6, hcz8_7, hcz8_8, hcz8_9, hcz8_10, hcz8_11, hcz8_12⟩ := cellsK13 BK256.out; obtain ⟨hfz8_0, hfz8_1, hfz8_2, hfz8_3, hfz8_4, hfz8_5, hfz8_6, hfz8_7, hfz8_8, hfz8_9, hfz8_10, hfz8_11, hfz8_12⟩ := frozK13 BK256.out) | ((with_reducible refine gate_callee (f := 61) rfl ?_); refine goesL_ (some 7) rfl rfl Tryz.func61 (by kernel_rfl) rfl #[.agg #[.slice A0_0 l0_0.length c0_0, .slice A0_1 l0_1.length c0_1, .int .i64 a0_2, .int .i64 a0_3, .int .i64 a0_4, .int .i64 a0_5, .int .i64 a0_6, .int .i64 a0_7, .int .i64 a0_8, .int .i64 a0_9, .int .i64 a0_10, .int .i64 a0_11, .int .i64 a0_12]] rfl lm ?_; (with_reducible refine (dr5_edge.calls _ _ l0_0 _ _ l0_1 a0_2 a0_3 a0_4 a0_5 a0_6 a0_7 a0_8 a0_9 a0_10 a0_11 a0_12 t258 _ ?side1 ?side2 ?side3 ?side4 A4.out).mono ?_); (case side1 => exact kc HR0_0); (case side2 => exact HC0_0.out); (case side3 => exact kc HR0_1); (case side4 => exact HC0_1.out); rintro e w9 ⟨rfl, hb⟩; refine ⟨_, rfl, ?_⟩; have n0_ := am (blk_below (bk BK256) hb); have n1_ := am (below_step (bl1 GE256) hb); clear BK256; clear HB; have BK256 := n0_; have HB := n1_; clear n0_ n1_; (try clear hb); (try clear hb2); (try clear hk); (try clear hi)))
  go_ret
  exact ⟨ew, bl1 GE256⟩
 ·replace c3 := Bool.eq_false_iff.mpr c3
  subst c3
  have H1 : (some 0) = some r := by rw [if_neg (show ¬ (false = true) by decide)] at H; exact H
  clear H
  have H := H1
  clear H1
  obtain rfl := Option.some.inj H
  go_enter Tryz.func38, Tryz.ntmps38
  go_wp2_with (first | ((with_reducible refine gate_dst (N := 1) rfl ?_); refine bxe 1 #[.slice A0_0 l0_0.length c0_0, .slice A0_1 l0_1.length c0_1, .int .i64 a0_2, .int .i64 a0_3, .int .i64 a0_4, .int .i64 a0_5, .int .i64 a0_6, .int .i64 a0_7, .int .i64 a0_8, .int .i64 a0_9, .int .i64 a0_10, .int .i64 a0_11, .int .i64 a0_12] 25 ?_; intro gb256 hg w10 hbox hb; have n0_ := am (below_step bl0 hb); have n1_ := am (hbox); have n2_ := am (gw0 hg); have n3_ := am (gw0 hg); clear HB; have HB := n0_; have BK256 := n1_; have GW256 := n2_; have GE256 := n3_; clear n0_ n1_ n2_ n3_; clear hb hbox hg; obtain ⟨hcz11_0, hcz11_1, hcz11_2, hcz11_3, hcz11_4, hcz11_5, hcz11_6, hcz11_7, hcz11_8, hcz11_9, hcz11_10, hcz11_11, hcz11_12⟩ := cellsK13 BK256.out; obtain ⟨hfz11_0, hfz11_1, hfz11_2, hfz11_3, hfz11_4, hfz11_5, hfz11_6, hfz11_7, hfz11_8, hfz11_9, hfz11_10, hfz11_11, hfz11_12⟩ := frozK13 BK256.out) | ((with_reducible refine gate_callee (f := 55) rfl ?_); refine goesL_ (some 4) rfl rfl Tryz.func55 (by kernel_rfl) rfl #[.agg #[.slice A0_0 l0_0.length c0_0, .slice A0_1 l0_1.length c0_1, .int .i64 a0_2, .int .i64 a0_3, .int .i64 a0_4, .int .i64 a0_5, .int .i64 a0_6, .int .i64 a0_7, .int .i64 a0_8, .int .i64 a0_9, .int .i64 a0_10, .int .i64 a0_11, .int .i64 a0_12]] rfl lm ?_; (with_reducible refine (dr5_ranged.calls _ _ l0_0 _ _ l0_1 a0_2 a0_3 a0_4 a0_5 a0_6 a0_7 a0_8 a0_9 a0_10 a0_11 a0_12 false _ ?side1 ?side2 ?side3 ?side4 A2.out).mono ?_); (case side1 => exact kc HR0_0); (case side2 => exact HC0_0.out); (case side3 => exact kc HR0_1); (case side4 => exact HC0_1.out); rintro e w12 ⟨rfl, hb⟩; refine ⟨_, rfl, ?_⟩; have n0_ := am (blk_below (bk BK256) hb); have n1_ := am (below_step (bl1 GE256) hb); clear BK256; clear HB; have BK256 := n0_; have HB := n1_; clear n0_ n1_; (try clear hb); (try clear hb2); (try clear hk); (try clear hi)))
  go_ret
  exact ⟨ew, bl1 GE256⟩
end Go.Proofs.YtbefbhghmommhaaGreatDoor.MWo
set_option linter.unusedVariables false
set_option linter.unusedSimpArgs false
namespace Go.Proofs.YtbefbhghmommhaaGreatDoor.MWo
open Go.RowKit Go.Proofs.YtbefbhghmommhaaGreatDoorW.PrintWords Go.Proofs.YtbefbhghmommhaaGreatDoorW.PrintLast Go.Proofs.YtbefbhghmommhaaGreatDoorW.PrintMore
def PB (W : World) (g cap : Nat) (P : List S68) : Prop := ∃ cur : Array Value, W.heap[g]? = some (.cells cur 68 (0, 0)) ∧ cur.size = cap * 2 ∧ P.length ≤ cap ∧ cap ≤ maxLen ∧
 ∀ i x, P[i]? = some x → cur[i * 2]? = some (.int .i64 x.f0) ∧ cur[i * 2 + 1]? = some (.int .i64 x.f1)
theorem PB.of_R {W : World} {B : Nat} {ok : Nat → Prop} {v : Value} {P : List S68} (h : Kd.R k68 68 W B ok v P) (hp : 0 < P.length) : ∃ g cap, v = .slice (some ⟨g, 0, none⟩) P.length cap ∧ B ≤ g ∧ PB W g cap P := by
 obtain ⟨h0, inner, ⟨hlen, hor⟩, hreps⟩ := h
 have hsz : k68.sz = 2 := rfl
 rw [hsz] at hlen hor hreps
 rcases hor with ⟨_, h00⟩ | ⟨g, cap, cur, rfl, hb, hh, hn, hm, hs, ht⟩
 ·omega
 ·refine ⟨g, cap, rfl, hb, cur, hh, hs, hn, hm, fun i x hx => ?_⟩
  have hi : i < P.length := (List.getElem?_eq_some_iff.1 hx).1
  have hr := k68_openM (hreps.2 i x hx)
  rw [← ht] at hr
  have e0 : ((List.drop (i * 2) (List.take (P.length * 2) cur.toList)).take 2)[0]? = some (.int .i64 x.f0) := by rw [hr]; rfl
  have e1 : ((List.drop (i * 2) (List.take (P.length * 2) cur.toList)).take 2)[1]? = some (.int .i64 x.f1) := by rw [hr]; rfl
  rw [List.getElem?_take, if_pos (by omega), List.getElem?_drop, List.getElem?_take, if_pos (by omega), Array.getElem?_toList] at e0 e1
  exact ⟨e0, e1⟩
theorem PB.to_R {W : World} {g cap B : Nat} {ok : Nat → Prop} {P : List S68} (h : PB W g cap P) (hb : B ≤ g) (hok : ok g) : Kd.R k68 68 W B ok (.slice (some ⟨g, 0, none⟩) P.length cap) P := by
 obtain ⟨cur, hh, hs, hn, hm, hc⟩ := h
 have hsz : k68.sz = 2 := rfl
 refine ⟨fun k hk => ?_, cur.toList.take (P.length * 2), ⟨?_, .inr ⟨g, cap, cur, rfl, hb, hh, hn, hm, by rw [hsz]; exact hs, by rw [hsz]⟩⟩, ?_, fun j x hx => ?_⟩
 ·simp [Value.ownBlock] at hk
  rw [← hk]; exact hok
 ·rw [hsz, List.length_take, show cur.toList.length = cap * 2 from hs]; have e : (P.toArray).size = P.length := by simp
  first | omega | (simp; omega)
 ·rw [hsz, List.length_take, show cur.toList.length = cap * 2 from hs]; have e : (P.toArray).size = P.length := by simp
  first | omega | (simp; omega)
 ·rw [hsz]
  have hj : j < P.length := (List.getElem?_eq_some_iff.1 hx).1
  obtain ⟨c0, c1⟩ := hc j x hx
  have : ((List.drop (j * 2) (List.take (P.length * 2) cur.toList)).take 2) = [.int .i64 x.f0, .int .i64 x.f1] := by
   apply List.ext_getElem?
   intro m
   match m with
   | 0 => rw [List.getElem?_take, if_pos (by omega), List.getElem?_drop, List.getElem?_take, if_pos (by omega), Array.getElem?_toList]; exact c0
   | 1 => rw [List.getElem?_take, if_pos (by omega), List.getElem?_drop, List.getElem?_take, if_pos (by omega), Array.getElem?_toList]; exact c1
   | m + 2 => rw [List.getElem?_take, if_neg (by omega)]; rfl
  rw [this]
  exact k68_mkM _ _ _ x
theorem PB.put {W : World} {g cap : Nat} {P : List S68} (h : PB W g cap P) (i : Int) (h0 : 0 ≤ i) (h1 : i < P.length) (v : Int) : PB (W.setCell ⟨g, i.toNat * 2, none⟩ (.int .i64 v)) g cap (P.set i.toNat ⟨v, (rd_T68 P i).f1⟩) := by
 obtain ⟨cur, hh, hs, hn, hm, hc⟩ := h
 refine ⟨_, blk_set hh (i.toNat * 2) (.int .i64 v), by simpa using hs, by simpa using hn, hm, fun j x hx => ?_⟩
 have hlt : i.toNat < P.length := by omega
 by_cases e : j = i.toNat
 ·subst e
  rw [List.getElem?_set_self hlt] at hx
  injection hx with hx
  subst hx
  have hr : P[i.toNat]? = some (rd_T68 P i) := by simp [rd_T68, List.getD_eq_getElem?_getD, hlt]
  obtain ⟨c0, c1⟩ := hc _ _ hr
  constructor
  ·simp [Array.getElem?_setIfInBounds]; omega
  ·rw [Array.getElem?_setIfInBounds_ne (by omega)]; exact c1
 ·rw [List.getElem?_set_ne (Ne.symm e)] at hx
  obtain ⟨c0, c1⟩ := hc j x hx
  constructor
  ·rw [Array.getElem?_setIfInBounds_ne (by omega)]; exact c0
  ·rw [Array.getElem?_setIfInBounds_ne (by omega)]; exact c1
theorem PB.cell {W : World} {g cap : Nat} {P : List S68} (h : PB W g cap P) (i : Int) (h0 : 0 ≤ i) (h1 : i < P.length) : W.cell? ⟨g, i.toNat * 2, none⟩ = some (.int .i64 (rd_T68 P i).f0) ∧ W.frozen? ⟨g, i.toNat * 2, none⟩ = false := by
 obtain ⟨cur, hh, hs, hn, hm, hc⟩ := h
 have hlt : i.toNat < P.length := by omega
 have hr : P[i.toNat]? = some (rd_T68 P i) := by simp [rd_T68, List.getD_eq_getElem?_getD, hlt]
 exact ⟨(blk_cell hh _).trans (hc _ _ hr).1, blk_frozen hh _⟩
theorem PB.keep {W W' : World} {g cap : Nat} {P : List S68} (h : PB W g cap P) (hk : W'.heap[g]? = W.heap[g]?) : PB W' g cap P := by
 obtain ⟨cur, hh, r⟩ := h
 exact ⟨cur, hk.trans hh, r⟩
end Go.Proofs.YtbefbhghmommhaaGreatDoor.MWo
