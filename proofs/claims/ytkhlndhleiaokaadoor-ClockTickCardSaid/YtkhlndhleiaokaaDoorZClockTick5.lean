/- Texts that ClockTick leans on, laid together by a program (wip/d/merge.py): Hs, MHox45, MHox55, MHox56, MHox57, MHox58, MHox59, MHox60. -/
import Derived.Test.YtkhlndhleiaokaaDoorZClockTick4
import Derived.BigQuiet
import Derived.Test.YtkhlndhleiaokaaDoorZClockTick1
set_option linter.unusedVariables false
set_option linter.unusedSimpArgs false
namespace Go.Proofs.YtkhlndhleiaokaaDoor.MHo
open Go.RowKit Go.Proofs.YtkhlndhleiaokaaDoorW.PrintWords Go.Proofs.YtkhlndhleiaokaaDoorW.PrintLast Go.Proofs.YtkhlndhleiaokaaDoorW.PrintMore
set_option maxHeartbeats 8000000 in
set_option maxRecDepth 10000 in
theorem rlink_yes (A0 : Option Addr) (c0 : Nat) (P : List S60) (A1 : Option Addr) (c1 : Nat) (L : List S37) (a2 a3 a4 a5 a6 a7 a8 a9 a10 a11 a12 : Int) (i : Int) (x : S37) (w : World) (hr0 : Kd.C k60 w A0 P.length P) (hc0 : P.length ≤ c0) (hr1 : Kd.C k37 w A1 L.length L) (hc1 : L.length ≤ c1) (hL : L.length ≤ 1000) (hi0 : 0 ≤ i) (hi1 : i < L.length) (hx : rd_T37 L i = x) (hq : LinkOk P (L.take i.toNat) x) :
    Calls Tryd.prog 61 #[.agg #[.slice A0 P.length c0, .slice A1 L.length c1, .int .i64 a2, .int .i64 a3, .int .i64 a4, .int .i64 a5, .int .i64 a6, .int .i64 a7, .int .i64 a8, .int .i64 a9, .int .i64 a10, .int .i64 a11, .int .i64 a12], .int .i64 i] w fun e w' => e = .returned (.int .i64 0) ∧ Below w.heap.size w w' := by
  have HR0 := Aside0.mk hr0
  have HR1 := Aside0.mk hr1
  have HC0 := Aside0.mk hc0
  have HC1 := Aside0.mk hc1
  have HQ := Aside0.mk hq
  have HL := Aside0.mk (show L.length ≤ 1000 ∧ 0 ≤ i ∧ i ≤ (L.length : Int) ∧ i < (L.length : Int) from ⟨hL, hi0, by omega, hi1⟩)
  obtain ⟨ad1, e1, y0, y1, y2, y3, y4, y5⟩ := at_T37 hr1 i hi0 hi1
  subst e1
  rw [hx] at y0 y1 y2 y3 y4 y5
  have p0_ := eq_true hi0
  have p1_ := eq_true hi1
  have hx' := Aside0.mk hx
  clear hr0 hr1 hc0 hc1 hq hL hx
  obtain ⟨a, b, ⟨p0, p1⟩, ⟨q0, q1⟩⟩ := x
  dsimp only at y0 y1 y2 y3 y4 y5
  have HQ' : Aside0 (0 ≤ a ∧ a < b ∧ b < (P.length : Int)) := ⟨HQ.out.a0, HQ.out.ab, HQ.out.b1⟩
  have hge : decide (b ≤ a) = false := decide_eq_false (by have := HQ'.out; omega)
  go_enter Tryd.func61, Tryd.ntmps61
  go_upto_region 1 with fail
  have HO0 : Aside0 ((w.alloc (.cells #[.slice A0 P.length c0, .slice (some ad1) L.length c1, .int .i64 a2, .int .i64 a3, .int .i64 a4, .int .i64 a5, .int .i64 a6, .int .i64 a7, .int .i64 a8, .int .i64 a9, .int .i64 a10, .int .i64 a11, .int .i64 a12] 25)).heap[w.heap.size]? = some (.cells #[.slice A0 P.length c0, .slice (some ad1) L.length c1, .int .i64 a2, .int .i64 a3, .int .i64 a4, .int .i64 a5, .int .i64 a6, .int .i64 a7, .int .i64 a8, .int .i64 a9, .int .i64 a10, .int .i64 a11, .int .i64 a12] 25)) := ⟨heap_alloc_new _ _⟩
  have HB0 := Aside0.mk (below_alloc (Below.refl w.heap.size w) (Obj.cells #[.slice A0 P.length c0, .slice (some ad1) L.length c1, .int .i64 a2, .int .i64 a3, .int .i64 a4, .int .i64 a5, .int .i64 a6, .int .i64 a7, .int .i64 a8, .int .i64 a9, .int .i64 a10, .int .i64 a11, .int .i64 a12] 25))
  generalize w.alloc (.cells #[.slice A0 P.length c0, .slice (some ad1) L.length c1, .int .i64 a2, .int .i64 a3, .int .i64 a4, .int .i64 a5, .int .i64 a6, .int .i64 a7, .int .i64 a8, .int .i64 a9, .int .i64 a10, .int .i64 a11, .int .i64 a12] 25) = wz at *
  obtain ⟨bx, hbx⟩ : ∃ bx, bx = w.heap.size := ⟨_, rfl⟩
  rw [← hbx]
  rw [← hbx] at HO0
  clear hbx y0 y1 y2 y3 y4 y5
  obtain ⟨ad', e1, y0, y1, y2, y3, y4, y5⟩ := at_T37 (Kd.C_below HR1.out HB0.out) i HL.out.2.1 HL.out.2.2.2
  have e1' := Option.some.inj e1
  subst e1'
  clear e1
  rw [hx'.out] at y0 y1 y2 y3 y4 y5
  dsimp only at y0 y1 y2 y3 y4 y5
  have x0 : wz.cell? ⟨bx, 0, none⟩ = some (.slice A0 P.length c0) := (blk_cell HO0.out 0).trans rfl
  have x1 : wz.cell? ⟨bx, 1, none⟩ = some (.slice (some ad1) L.length c1) := (blk_cell HO0.out 1).trans rfl
  have x2 : wz.cell? ⟨bx, 2, none⟩ = some (.int .i64 a2) := (blk_cell HO0.out 2).trans rfl
  have x3 : wz.cell? ⟨bx, 3, none⟩ = some (.int .i64 a3) := (blk_cell HO0.out 3).trans rfl
  have x4 : wz.cell? ⟨bx, 4, none⟩ = some (.int .i64 a4) := (blk_cell HO0.out 4).trans rfl
  have x5 : wz.cell? ⟨bx, 5, none⟩ = some (.int .i64 a5) := (blk_cell HO0.out 5).trans rfl
  have x6 : wz.cell? ⟨bx, 6, none⟩ = some (.int .i64 a6) := (blk_cell HO0.out 6).trans rfl
  have x7 : wz.cell? ⟨bx, 7, none⟩ = some (.int .i64 a7) := (blk_cell HO0.out 7).trans rfl
  have x8 : wz.cell? ⟨bx, 8, none⟩ = some (.int .i64 a8) := (blk_cell HO0.out 8).trans rfl
  have x9 : wz.cell? ⟨bx, 9, none⟩ = some (.int .i64 a9) := (blk_cell HO0.out 9).trans rfl
  have x10 : wz.cell? ⟨bx, 10, none⟩ = some (.int .i64 a10) := (blk_cell HO0.out 10).trans rfl
  have x11 : wz.cell? ⟨bx, 11, none⟩ = some (.int .i64 a11) := (blk_cell HO0.out 11).trans rfl
  have x12 : wz.cell? ⟨bx, 12, none⟩ = some (.int .i64 a12) := (blk_cell HO0.out 12).trans rfl
  go_upto_region 2 with fail
  have HB1 := Aside0.mk (below_alloc HB0.out (Obj.cells #[.int .i64 a, .int .i64 b, .int .i64 p0, .int .i64 p1, .int .i64 q0, .int .i64 q1] 37))
  have HO1 := Aside0.mk (((below_alloc (Below.refl wz.heap.size wz) (Obj.cells #[.int .i64 a, .int .i64 b, .int .i64 p0, .int .i64 p1, .int .i64 q0, .int .i64 q1] 37)).block bx (blk_lt HO0.out)).trans HO0.out)
  have HLk1 : Aside0 ((wz.alloc (Obj.cells #[.int .i64 a, .int .i64 b, .int .i64 p0, .int .i64 p1, .int .i64 q0, .int .i64 q1] 37)).heap[wz.heap.size]? = some (Obj.cells #[.int .i64 a, .int .i64 b, .int .i64 p0, .int .i64 p1, .int .i64 q0, .int .i64 q1] 37)) := ⟨heap_alloc_new _ _⟩
  clear x0 x1 x2 x3 x4 x5 x6 x7 x8 x9 x10 x11 x12 y0 y1 y2 y3 y4 y5
  generalize wz.alloc (Obj.cells #[.int .i64 a, .int .i64 b, .int .i64 p0, .int .i64 p1, .int .i64 q0, .int .i64 q1] 37) = w1 at *
  generalize wz.heap.size = bl at *
  have x0 : w1.cell? ⟨bx, 0, none⟩ = some (.slice A0 P.length c0) := (blk_cell HO1.out 0).trans rfl
  have x1 : w1.cell? ⟨bx, 1, none⟩ = some (.slice (some ad1) L.length c1) := (blk_cell HO1.out 1).trans rfl
  have x2 : w1.cell? ⟨bx, 2, none⟩ = some (.int .i64 a2) := (blk_cell HO1.out 2).trans rfl
  have x3 : w1.cell? ⟨bx, 3, none⟩ = some (.int .i64 a3) := (blk_cell HO1.out 3).trans rfl
  have x4 : w1.cell? ⟨bx, 4, none⟩ = some (.int .i64 a4) := (blk_cell HO1.out 4).trans rfl
  have x5 : w1.cell? ⟨bx, 5, none⟩ = some (.int .i64 a5) := (blk_cell HO1.out 5).trans rfl
  have x6 : w1.cell? ⟨bx, 6, none⟩ = some (.int .i64 a6) := (blk_cell HO1.out 6).trans rfl
  have x7 : w1.cell? ⟨bx, 7, none⟩ = some (.int .i64 a7) := (blk_cell HO1.out 7).trans rfl
  have x8 : w1.cell? ⟨bx, 8, none⟩ = some (.int .i64 a8) := (blk_cell HO1.out 8).trans rfl
  have x9 : w1.cell? ⟨bx, 9, none⟩ = some (.int .i64 a9) := (blk_cell HO1.out 9).trans rfl
  have x10 : w1.cell? ⟨bx, 10, none⟩ = some (.int .i64 a10) := (blk_cell HO1.out 10).trans rfl
  have x11 : w1.cell? ⟨bx, 11, none⟩ = some (.int .i64 a11) := (blk_cell HO1.out 11).trans rfl
  have x12 : w1.cell? ⟨bx, 12, none⟩ = some (.int .i64 a12) := (blk_cell HO1.out 12).trans rfl
  have l0 : w1.cell? ⟨bl, 0, none⟩ = some (.int .i64 a) := (blk_cell HLk1.out 0).trans rfl
  have l1 : w1.cell? ⟨bl, 1, none⟩ = some (.int .i64 b) := (blk_cell HLk1.out 1).trans rfl
  have l2 : w1.cell? ⟨bl, 2, none⟩ = some (.int .i64 p0) := (blk_cell HLk1.out 2).trans rfl
  have l3 : w1.cell? ⟨bl, 3, none⟩ = some (.int .i64 p1) := (blk_cell HLk1.out 3).trans rfl
  have l4 : w1.cell? ⟨bl, 4, none⟩ = some (.int .i64 q0) := (blk_cell HLk1.out 4).trans rfl
  have l5 : w1.cell? ⟨bl, 5, none⟩ = some (.int .i64 q1) := (blk_cell HLk1.out 5).trans rfl
  go_wp2_with fail
  refine (is_yes a (P.length : Int) _ HQ'.out.1 (by have := HQ'.out; omega)).mono ?_
  rintro e w2 ⟨rfl, hb⟩
  clear x0 x1 x2 x3 x4 x5 x6 x7 x8 x9 x10 x11 x12 l0 l1 l2 l3 l4 l5
  have HB2 := Aside0.mk (below_step HB1.out hb)
  have HO2 := Aside0.mk ((hb.block bx (blk_lt HO1.out)).trans HO1.out)
  have HLk2 := Aside0.mk ((hb.block bl (blk_lt HLk1.out)).trans HLk1.out)
  clear hb
  have x0 : w2.cell? ⟨bx, 0, none⟩ = some (.slice A0 P.length c0) := (blk_cell HO2.out 0).trans rfl
  have x1 : w2.cell? ⟨bx, 1, none⟩ = some (.slice (some ad1) L.length c1) := (blk_cell HO2.out 1).trans rfl
  have x2 : w2.cell? ⟨bx, 2, none⟩ = some (.int .i64 a2) := (blk_cell HO2.out 2).trans rfl
  have x3 : w2.cell? ⟨bx, 3, none⟩ = some (.int .i64 a3) := (blk_cell HO2.out 3).trans rfl
  have x4 : w2.cell? ⟨bx, 4, none⟩ = some (.int .i64 a4) := (blk_cell HO2.out 4).trans rfl
  have x5 : w2.cell? ⟨bx, 5, none⟩ = some (.int .i64 a5) := (blk_cell HO2.out 5).trans rfl
  have x6 : w2.cell? ⟨bx, 6, none⟩ = some (.int .i64 a6) := (blk_cell HO2.out 6).trans rfl
  have x7 : w2.cell? ⟨bx, 7, none⟩ = some (.int .i64 a7) := (blk_cell HO2.out 7).trans rfl
  have x8 : w2.cell? ⟨bx, 8, none⟩ = some (.int .i64 a8) := (blk_cell HO2.out 8).trans rfl
  have x9 : w2.cell? ⟨bx, 9, none⟩ = some (.int .i64 a9) := (blk_cell HO2.out 9).trans rfl
  have x10 : w2.cell? ⟨bx, 10, none⟩ = some (.int .i64 a10) := (blk_cell HO2.out 10).trans rfl
  have x11 : w2.cell? ⟨bx, 11, none⟩ = some (.int .i64 a11) := (blk_cell HO2.out 11).trans rfl
  have x12 : w2.cell? ⟨bx, 12, none⟩ = some (.int .i64 a12) := (blk_cell HO2.out 12).trans rfl
  have l0 : w2.cell? ⟨bl, 0, none⟩ = some (.int .i64 a) := (blk_cell HLk2.out 0).trans rfl
  have l1 : w2.cell? ⟨bl, 1, none⟩ = some (.int .i64 b) := (blk_cell HLk2.out 1).trans rfl
  have l2 : w2.cell? ⟨bl, 2, none⟩ = some (.int .i64 p0) := (blk_cell HLk2.out 2).trans rfl
  have l3 : w2.cell? ⟨bl, 3, none⟩ = some (.int .i64 p1) := (blk_cell HLk2.out 3).trans rfl
  have l4 : w2.cell? ⟨bl, 4, none⟩ = some (.int .i64 q0) := (blk_cell HLk2.out 4).trans rfl
  have l5 : w2.cell? ⟨bl, 5, none⟩ = some (.int .i64 q1) := (blk_cell HLk2.out 5).trans rfl
  go_wp2_with fail
  refine (is_yes b (P.length : Int) _ (by have := HQ'.out; omega) HQ'.out.2.2).mono ?_
  rintro e w3 ⟨rfl, hb⟩
  clear x0 x1 x2 x3 x4 x5 x6 x7 x8 x9 x10 x11 x12 l0 l1 l2 l3 l4 l5
  have HB3 := Aside0.mk (below_step HB2.out hb)
  have HO3 := Aside0.mk ((hb.block bx (blk_lt HO2.out)).trans HO2.out)
  have HLk3 := Aside0.mk ((hb.block bl (blk_lt HLk2.out)).trans HLk2.out)
  clear hb
  have x0 : w3.cell? ⟨bx, 0, none⟩ = some (.slice A0 P.length c0) := (blk_cell HO3.out 0).trans rfl
  have x1 : w3.cell? ⟨bx, 1, none⟩ = some (.slice (some ad1) L.length c1) := (blk_cell HO3.out 1).trans rfl
  have x2 : w3.cell? ⟨bx, 2, none⟩ = some (.int .i64 a2) := (blk_cell HO3.out 2).trans rfl
  have x3 : w3.cell? ⟨bx, 3, none⟩ = some (.int .i64 a3) := (blk_cell HO3.out 3).trans rfl
  have x4 : w3.cell? ⟨bx, 4, none⟩ = some (.int .i64 a4) := (blk_cell HO3.out 4).trans rfl
  have x5 : w3.cell? ⟨bx, 5, none⟩ = some (.int .i64 a5) := (blk_cell HO3.out 5).trans rfl
  have x6 : w3.cell? ⟨bx, 6, none⟩ = some (.int .i64 a6) := (blk_cell HO3.out 6).trans rfl
  have x7 : w3.cell? ⟨bx, 7, none⟩ = some (.int .i64 a7) := (blk_cell HO3.out 7).trans rfl
  have x8 : w3.cell? ⟨bx, 8, none⟩ = some (.int .i64 a8) := (blk_cell HO3.out 8).trans rfl
  have x9 : w3.cell? ⟨bx, 9, none⟩ = some (.int .i64 a9) := (blk_cell HO3.out 9).trans rfl
  have x10 : w3.cell? ⟨bx, 10, none⟩ = some (.int .i64 a10) := (blk_cell HO3.out 10).trans rfl
  have x11 : w3.cell? ⟨bx, 11, none⟩ = some (.int .i64 a11) := (blk_cell HO3.out 11).trans rfl
  have x12 : w3.cell? ⟨bx, 12, none⟩ = some (.int .i64 a12) := (blk_cell HO3.out 12).trans rfl
  have l0 : w3.cell? ⟨bl, 0, none⟩ = some (.int .i64 a) := (blk_cell HLk3.out 0).trans rfl
  have l1 : w3.cell? ⟨bl, 1, none⟩ = some (.int .i64 b) := (blk_cell HLk3.out 1).trans rfl
  have l2 : w3.cell? ⟨bl, 2, none⟩ = some (.int .i64 p0) := (blk_cell HLk3.out 2).trans rfl
  have l3 : w3.cell? ⟨bl, 3, none⟩ = some (.int .i64 p1) := (blk_cell HLk3.out 3).trans rfl
  have l4 : w3.cell? ⟨bl, 4, none⟩ = some (.int .i64 q0) := (blk_cell HLk3.out 4).trans rfl
  have l5 : w3.cell? ⟨bl, 5, none⟩ = some (.int .i64 q1) := (blk_cell HLk3.out 5).trans rfl
  go_wp2_with fail
  clear x0 x1 x2 x3 x4 x5 x6 x7 x8 x9 x10 x11 x12 l0 l1 l2 l3 l4 l5 hge
  go_loopg [6] (L.length + 1) (fun kq v6 w' => ∃ k : Int, v6 = .int .i64 k ∧ Aside0 (kq + k = L.length + 1 ∧ 0 ≤ k ∧ k ≤ i) ∧ Aside0 (Below w.heap.size w w') ∧ Aside0 (w'.heap[bx]? = some (.cells #[.slice A0 P.length c0, .slice (some ad1) L.length c1, .int .i64 a2, .int .i64 a3, .int .i64 a4, .int .i64 a5, .int .i64 a6, .int .i64 a7, .int .i64 a8, .int .i64 a9, .int .i64 a10, .int .i64 a11, .int .i64 a12] 25)) ∧ Aside0 (w'.heap[bl]? = some (.cells #[.int .i64 a, .int .i64 b, .int .i64 p0, .int .i64 p1, .int .i64 q0, .int .i64 q1] 37)))
  case atStart => exact ⟨0, rfl, ⟨by have := HL.out; omega⟩, HB3, HO3, HLk3⟩
  case round =>
    clear HB3 HO3 HLk3
    obtain ⟨k, rfl, HK, HB, HO, HLk⟩ := hrel
    by_cases hk : k < i
    · have hlt : decide (k < i) = true := decide_eq_true hk
      have hk0 := HK.out.2.1
      have hkL : k < (L.length : Int) := by have := HL.out; omega
      have hno := any_take HQ.out.once hk0 hk HL.out.2.2.1
      have HBd := Aside0.mk (below_drew HB.out)
      obtain ⟨ad', e1, y0, y1, y2, y3, y4, y5⟩ := at_T37 (Kd.C_below HR1.out HB.out) k hk0 hkL
      have e1' := Option.some.inj e1
      subst e1'
      clear e1
      obtain ⟨xx, hxx⟩ : ∃ xx, rd_T37 L k = xx := ⟨_, rfl⟩
      rw [hxx] at y0 y1 hno
      clear hxx y2 y3 y4 y5
      obtain ⟨xa, xb, xp, xq⟩ := xx
      dsimp only at y0 y1
      have hno' : (xa == a && xb == b) = false := hno
      clear hno
      have k0_ := eq_true hk0
      have k1_ := eq_true hkL
      have hw1 : wrap64 (k + 1) = k + 1 := by have := HL.out; unfold wrap64; omega
      have x1 : wr.cell? ⟨bx, 1, none⟩ = some (.slice (some ad1) L.length c1) := (blk_cell HO.out 1).trans rfl
      have l0 : wr.cell? ⟨bl, 0, none⟩ = some (.int .i64 a) := (blk_cell HLk.out 0).trans rfl
      have l1 : wr.cell? ⟨bl, 1, none⟩ = some (.int .i64 b) := (blk_cell HLk.out 1).trans rfl
      cases gk with
      | zero => exact absurd HK.out (by have := HL.out; omega)
      | succ k1 =>
      cases hxa : (xa == a) with
      | false =>
        clear hno'
        go_wp2_with fail
        go_quiet (fail)
        go_wp2_with fail
        go_roundg k1
        case measure => have := HK.out; omega
        case rel => exact ⟨k + 1, (by first | rfl | rw [hw1]), ⟨by have := HK.out; have := of_decide_eq_true hlt; omega⟩, ⟨pw_below_drewN HB.out _⟩, HO, HLk⟩
      | true =>
        have hxb : (xb == b) = false := by cases h : (xb == b) <;> simp [hxa, h] at hno' ⊢
        clear hno'
        go_wp2_with fail
        go_quiet (fail)
        go_wp2_with fail
        go_roundg k1
        case measure => have := HK.out; omega
        case rel => exact ⟨k + 1, (by first | rfl | rw [hw1]), ⟨by have := HK.out; have := of_decide_eq_true hlt; omega⟩, ⟨pw_below_drewN HB.out _⟩, HO, HLk⟩
    · have hlt : decide (k < i) = false := decide_eq_false hk
      have x0 : wr.cell? ⟨bx, 0, none⟩ = some (.slice A0 P.length c0) := (blk_cell HO.out 0).trans rfl
      have x1 : wr.cell? ⟨bx, 1, none⟩ = some (.slice (some ad1) L.length c1) := (blk_cell HO.out 1).trans rfl
      have x2 : wr.cell? ⟨bx, 2, none⟩ = some (.int .i64 a2) := (blk_cell HO.out 2).trans rfl
      have x3 : wr.cell? ⟨bx, 3, none⟩ = some (.int .i64 a3) := (blk_cell HO.out 3).trans rfl
      have x4 : wr.cell? ⟨bx, 4, none⟩ = some (.int .i64 a4) := (blk_cell HO.out 4).trans rfl
      have x5 : wr.cell? ⟨bx, 5, none⟩ = some (.int .i64 a5) := (blk_cell HO.out 5).trans rfl
      have x6 : wr.cell? ⟨bx, 6, none⟩ = some (.int .i64 a6) := (blk_cell HO.out 6).trans rfl
      have x7 : wr.cell? ⟨bx, 7, none⟩ = some (.int .i64 a7) := (blk_cell HO.out 7).trans rfl
      have x8 : wr.cell? ⟨bx, 8, none⟩ = some (.int .i64 a8) := (blk_cell HO.out 8).trans rfl
      have x9 : wr.cell? ⟨bx, 9, none⟩ = some (.int .i64 a9) := (blk_cell HO.out 9).trans rfl
      have x10 : wr.cell? ⟨bx, 10, none⟩ = some (.int .i64 a10) := (blk_cell HO.out 10).trans rfl
      have x11 : wr.cell? ⟨bx, 11, none⟩ = some (.int .i64 a11) := (blk_cell HO.out 11).trans rfl
      have x12 : wr.cell? ⟨bx, 12, none⟩ = some (.int .i64 a12) := (blk_cell HO.out 12).trans rfl
      have l0 : wr.cell? ⟨bl, 0, none⟩ = some (.int .i64 a) := (blk_cell HLk.out 0).trans rfl
      have l1 : wr.cell? ⟨bl, 1, none⟩ = some (.int .i64 b) := (blk_cell HLk.out 1).trans rfl
      have l2 : wr.cell? ⟨bl, 2, none⟩ = some (.int .i64 p0) := (blk_cell HLk.out 2).trans rfl
      have l3 : wr.cell? ⟨bl, 3, none⟩ = some (.int .i64 p1) := (blk_cell HLk.out 3).trans rfl
      have l4 : wr.cell? ⟨bl, 4, none⟩ = some (.int .i64 q0) := (blk_cell HLk.out 4).trans rfl
      have l5 : wr.cell? ⟨bl, 5, none⟩ = some (.int .i64 q1) := (blk_cell HLk.out 5).trans rfl
      go_wp2_with fail
      refine (ends_no A0 c0 P (some ad1) c1 L a2 a3 a4 a5 a6 a7 a8 a9 a10 a11 a12 i a p0 p1 _ (Kd.C_below HR0.out HB.out) HC0.out (Kd.C_below HR1.out HB.out) HC1.out HL.out.1 HL.out.2.1 HL.out.2.2.1 HQ.out.s0).mono ?_
      rintro e w5 ⟨rfl, hb⟩
      clear x0 x1 x2 x3 x4 x5 x6 x7 x8 x9 x10 x11 x12 l0 l1 l2 l3 l4 l5
      have HB5 := Aside0.mk (below_step HB.out hb)
      have HO5 := Aside0.mk ((hb.block bx (blk_lt HO.out)).trans HO.out)
      have HLk5 := Aside0.mk ((hb.block bl (blk_lt HLk.out)).trans HLk.out)
      clear hb
      have x0 : w5.cell? ⟨bx, 0, none⟩ = some (.slice A0 P.length c0) := (blk_cell HO5.out 0).trans rfl
      have x1 : w5.cell? ⟨bx, 1, none⟩ = some (.slice (some ad1) L.length c1) := (blk_cell HO5.out 1).trans rfl
      have x2 : w5.cell? ⟨bx, 2, none⟩ = some (.int .i64 a2) := (blk_cell HO5.out 2).trans rfl
      have x3 : w5.cell? ⟨bx, 3, none⟩ = some (.int .i64 a3) := (blk_cell HO5.out 3).trans rfl
      have x4 : w5.cell? ⟨bx, 4, none⟩ = some (.int .i64 a4) := (blk_cell HO5.out 4).trans rfl
      have x5 : w5.cell? ⟨bx, 5, none⟩ = some (.int .i64 a5) := (blk_cell HO5.out 5).trans rfl
      have x6 : w5.cell? ⟨bx, 6, none⟩ = some (.int .i64 a6) := (blk_cell HO5.out 6).trans rfl
      have x7 : w5.cell? ⟨bx, 7, none⟩ = some (.int .i64 a7) := (blk_cell HO5.out 7).trans rfl
      have x8 : w5.cell? ⟨bx, 8, none⟩ = some (.int .i64 a8) := (blk_cell HO5.out 8).trans rfl
      have x9 : w5.cell? ⟨bx, 9, none⟩ = some (.int .i64 a9) := (blk_cell HO5.out 9).trans rfl
      have x10 : w5.cell? ⟨bx, 10, none⟩ = some (.int .i64 a10) := (blk_cell HO5.out 10).trans rfl
      have x11 : w5.cell? ⟨bx, 11, none⟩ = some (.int .i64 a11) := (blk_cell HO5.out 11).trans rfl
      have x12 : w5.cell? ⟨bx, 12, none⟩ = some (.int .i64 a12) := (blk_cell HO5.out 12).trans rfl
      have l0 : w5.cell? ⟨bl, 0, none⟩ = some (.int .i64 a) := (blk_cell HLk5.out 0).trans rfl
      have l1 : w5.cell? ⟨bl, 1, none⟩ = some (.int .i64 b) := (blk_cell HLk5.out 1).trans rfl
      have l2 : w5.cell? ⟨bl, 2, none⟩ = some (.int .i64 p0) := (blk_cell HLk5.out 2).trans rfl
      have l3 : w5.cell? ⟨bl, 3, none⟩ = some (.int .i64 p1) := (blk_cell HLk5.out 3).trans rfl
      have l4 : w5.cell? ⟨bl, 4, none⟩ = some (.int .i64 q0) := (blk_cell HLk5.out 4).trans rfl
      have l5 : w5.cell? ⟨bl, 5, none⟩ = some (.int .i64 q1) := (blk_cell HLk5.out 5).trans rfl
      go_wp2_with fail
      refine (ends_no A0 c0 P (some ad1) c1 L a2 a3 a4 a5 a6 a7 a8 a9 a10 a11 a12 i b q0 q1 _ (Kd.C_below HR0.out HB5.out) HC0.out (Kd.C_below HR1.out HB5.out) HC1.out HL.out.1 HL.out.2.1 HL.out.2.2.1 HQ.out.s1).mono ?_
      rintro e w6 ⟨rfl, hb⟩
      clear x0 x1 x2 x3 x4 x5 x6 x7 x8 x9 x10 x11 x12 l0 l1 l2 l3 l4 l5
      have HB6 := Aside0.mk (below_step HB5.out hb)
      have HO6 := Aside0.mk ((hb.block bx (blk_lt HO5.out)).trans HO5.out)
      have HLk6 := Aside0.mk ((hb.block bl (blk_lt HLk5.out)).trans HLk5.out)
      clear hb
      go_wp2_with fail
      go_ret
      exact ⟨rfl, HB6.out⟩
set_option maxHeartbeats 8000000 in
set_option maxRecDepth 10000 in
theorem rcheck_yes (A0 : Option Addr) (c0 : Nat) (P : List S60) (A1 : Option Addr) (c1 : Nat) (L : List S37) (a2 a3 a4 a5 a6 a7 a8 a9 a10 a11 a12 : Int) (d : List Int) (w : World) (hr0 : Kd.C k60 w A0 P.length P) (hc0 : P.length ≤ c0) (hr1 : Kd.C k37 w A1 L.length L) (hc1 : L.length ≤ c1) (hn : NetOk P L) (hd : drumlineref5_dists.f 100 P L a2 a3 a4 a5 a6 a7 a8 a9 a10 a11 a12 0 = some d) (hp : ∀ x, x ∈ d → 0 ≤ x) (hdl : d.length ≤ 6) :
    Calls Tryd.prog 49 #[.agg #[.slice A0 P.length c0, .slice A1 L.length c1, .int .i64 a2, .int .i64 a3, .int .i64 a4, .int .i64 a5, .int .i64 a6, .int .i64 a7, .int .i64 a8, .int .i64 a9, .int .i64 a10, .int .i64 a11, .int .i64 a12]] w fun e w' => e = .returned (.tuple #[.int .i64 0, .int .i64 0]) ∧ Below w.heap.size w w' := by
  have HR0 := Aside0.mk hr0
  have HR1 := Aside0.mk hr1
  have HC0 := Aside0.mk hc0
  have HC1 := Aside0.mk hc1
  have HN := Aside0.mk hn
  have HD := Aside0.mk hd
  have HP := Aside0.mk hp
  have HDL := Aside0.mk hdl
  have hd1 : decide ((P.length : Int) < 1) = false := decide_eq_false (by have := hn.p1; omega)
  have hd6 : decide ((6 : Int) < (P.length : Int)) = false := decide_eq_false (by have := hn.p6; omega)
  have hd10 : decide ((10 : Int) < (L.length : Int)) = false := decide_eq_false (by have := hn.l10; omega)
  clear hr0 hr1 hc0 hc1 hn hd hp hdl
  go_enter Tryd.func49, Tryd.ntmps49
  go_upto_region 1 with fail
  have HO : Aside0 ((w.alloc (.cells #[.slice A0 P.length c0, .slice A1 L.length c1, .int .i64 a2, .int .i64 a3, .int .i64 a4, .int .i64 a5, .int .i64 a6, .int .i64 a7, .int .i64 a8, .int .i64 a9, .int .i64 a10, .int .i64 a11, .int .i64 a12] 25)).heap[w.heap.size]? = some (.cells #[.slice A0 P.length c0, .slice A1 L.length c1, .int .i64 a2, .int .i64 a3, .int .i64 a4, .int .i64 a5, .int .i64 a6, .int .i64 a7, .int .i64 a8, .int .i64 a9, .int .i64 a10, .int .i64 a11, .int .i64 a12] 25)) := ⟨heap_alloc_new _ _⟩
  have HB := Aside0.mk (below_alloc (Below.refl w.heap.size w) (Obj.cells #[.slice A0 P.length c0, .slice A1 L.length c1, .int .i64 a2, .int .i64 a3, .int .i64 a4, .int .i64 a5, .int .i64 a6, .int .i64 a7, .int .i64 a8, .int .i64 a9, .int .i64 a10, .int .i64 a11, .int .i64 a12] 25))
  generalize w.alloc (.cells #[.slice A0 P.length c0, .slice A1 L.length c1, .int .i64 a2, .int .i64 a3, .int .i64 a4, .int .i64 a5, .int .i64 a6, .int .i64 a7, .int .i64 a8, .int .i64 a9, .int .i64 a10, .int .i64 a11, .int .i64 a12] 25) = wa at *
  obtain ⟨bx, hbx⟩ : ∃ bx, bx = w.heap.size := ⟨_, rfl⟩
  rw [← hbx]
  rw [← hbx] at HO
  clear hbx
  have xa0 : wa.cell? ⟨bx, 0, none⟩ = some (.slice A0 P.length c0) := (blk_cell HO.out 0).trans rfl
  go_wp2_with fail
  clear xa0 hd1 hd6
  go_loopg [4] (P.length + 1) (fun kq v4 w' => ∃ i : Int, v4 = .int .i64 i ∧ Aside0 (kq + i = P.length + 1 ∧ 0 ≤ i) ∧ Aside0 (Below w.heap.size w w') ∧ Aside0 (w'.heap[bx]? = some (.cells #[.slice A0 P.length c0, .slice A1 L.length c1, .int .i64 a2, .int .i64 a3, .int .i64 a4, .int .i64 a5, .int .i64 a6, .int .i64 a7, .int .i64 a8, .int .i64 a9, .int .i64 a10, .int .i64 a11, .int .i64 a12] 25)))
  case atStart => exact ⟨0, rfl, ⟨by omega⟩, HB, HO⟩
  case round =>
    clear HB HO
    obtain ⟨i, rfl, HK, HB, HO⟩ := hrel
    have xa0 : wr.cell? ⟨bx, 0, none⟩ = some (.slice A0 P.length c0) := (blk_cell HO.out 0).trans rfl
    have xa1 : wr.cell? ⟨bx, 1, none⟩ = some (.slice A1 L.length c1) := (blk_cell HO.out 1).trans rfl
    by_cases hi1 : i < (P.length : Int)
    · have hi0 := HK.out.2
      obtain ⟨ad0, e0, y0, y1⟩ := at_T60 (Kd.C_below HR0.out HB.out) i hi0 hi1
      cases e0
      have HQ := Aside0.mk (HN.out.parts i hi0 hi1)
      obtain ⟨n, f, hx⟩ : ∃ n f, rd_T60 P i = ⟨n, f⟩ := ⟨_, _, rfl⟩
      rw [hx] at y0 y1 HQ
      clear hx
      dsimp only at y0 y1
      have HQ' : Aside0 (1 ≤ n ∧ n ≤ 12 ∧ 0 ≤ f ∧ f ≤ 3 ∧ 3 * f + 1 ≤ n) := ⟨HQ.out⟩
      have hlt : decide (i < (P.length : Int)) = true := decide_eq_true hi1
      have p0_ := eq_true hi0
      have p1_ := eq_true hi1
      have hw1 : wrap64 (i + 1) = i + 1 := by have := HN.out.p6; unfold wrap64; omega
      have t1 : decide (n < 1) = false := decide_eq_false (by have := HQ'.out; omega)
      have t2 : decide (12 < n) = false := decide_eq_false (by have := HQ'.out; omega)
      have t3 : decide (f < 0) = false := decide_eq_false (by have := HQ'.out; omega)
      have t4 : decide (3 < f) = false := decide_eq_false (by have := HQ'.out; omega)
      have t5 : wrap64 (3 * f) = 3 * f := by have := HQ'.out; unfold wrap64; omega
      have t6 : wrap64 (3 * f + 1) = 3 * f + 1 := by have := HQ'.out; unfold wrap64; omega
      have t7 : decide (n < 3 * f + 1) = false := decide_eq_false (by have := HQ'.out; omega)
      cases gk with
      | zero => exact absurd HK.out (by omega)
      | succ k1 =>
      go_wp2_with fail
      go_roundg k1
      case measure => have := HK.out; omega
      case rel => exact ⟨i + 1, (by first | rfl | rw [hw1]), ⟨by have := HK.out; omega⟩, ⟨by repeat (first | exact HB.out | apply below_alloc)⟩, ⟨((below_alloc (Below.refl wr.heap.size wr) _).block bx (blk_lt HO.out)).trans HO.out⟩⟩
    · have hlt : decide (i < (P.length : Int)) = false := decide_eq_false hi1
      go_wp2_with fail
      clear xa0 xa1 hd10 hlt
      go_loopg [6] (L.length + 1) (fun kq v6 w' => ∃ i : Int, v6 = .int .i64 i ∧ Aside0 (kq + i = L.length + 1 ∧ 0 ≤ i) ∧ Aside0 (Below w.heap.size w w') ∧ Aside0 (w'.heap[bx]? = some (.cells #[.slice A0 P.length c0, .slice A1 L.length c1, .int .i64 a2, .int .i64 a3, .int .i64 a4, .int .i64 a5, .int .i64 a6, .int .i64 a7, .int .i64 a8, .int .i64 a9, .int .i64 a10, .int .i64 a11, .int .i64 a12] 25)))
      case atStart => exact ⟨0, rfl, ⟨by omega⟩, HB, HO⟩
      case round =>
        clear HB HO HK hi1
        obtain ⟨i, rfl, HK, HB, HO⟩ := hrel
        have x0 : wr.cell? ⟨bx, 0, none⟩ = some (.slice A0 P.length c0) := (blk_cell HO.out 0).trans rfl
        have x1 : wr.cell? ⟨bx, 1, none⟩ = some (.slice A1 L.length c1) := (blk_cell HO.out 1).trans rfl
        have x2 : wr.cell? ⟨bx, 2, none⟩ = some (.int .i64 a2) := (blk_cell HO.out 2).trans rfl
        have x3 : wr.cell? ⟨bx, 3, none⟩ = some (.int .i64 a3) := (blk_cell HO.out 3).trans rfl
        have x4 : wr.cell? ⟨bx, 4, none⟩ = some (.int .i64 a4) := (blk_cell HO.out 4).trans rfl
        have x5 : wr.cell? ⟨bx, 5, none⟩ = some (.int .i64 a5) := (blk_cell HO.out 5).trans rfl
        have x6 : wr.cell? ⟨bx, 6, none⟩ = some (.int .i64 a6) := (blk_cell HO.out 6).trans rfl
        have x7 : wr.cell? ⟨bx, 7, none⟩ = some (.int .i64 a7) := (blk_cell HO.out 7).trans rfl
        have x8 : wr.cell? ⟨bx, 8, none⟩ = some (.int .i64 a8) := (blk_cell HO.out 8).trans rfl
        have x9 : wr.cell? ⟨bx, 9, none⟩ = some (.int .i64 a9) := (blk_cell HO.out 9).trans rfl
        have x10 : wr.cell? ⟨bx, 10, none⟩ = some (.int .i64 a10) := (blk_cell HO.out 10).trans rfl
        have x11 : wr.cell? ⟨bx, 11, none⟩ = some (.int .i64 a11) := (blk_cell HO.out 11).trans rfl
        have x12 : wr.cell? ⟨bx, 12, none⟩ = some (.int .i64 a12) := (blk_cell HO.out 12).trans rfl
        by_cases hi1 : i < (L.length : Int)
        · have hi0 := HK.out.2
          have hlt : decide (i < (L.length : Int)) = true := decide_eq_true hi1
          have hw1 : wrap64 (i + 1) = i + 1 := by have := HN.out.l10; unfold wrap64; omega
          cases gk with
          | zero => exact absurd HK.out (by omega)
          | succ k1 =>
          go_wp2_with fail
          refine (rlink_yes A0 c0 P A1 c1 L a2 a3 a4 a5 a6 a7 a8 a9 a10 a11 a12 i _ _ (Kd.C_below HR0.out HB.out) HC0.out (Kd.C_below HR1.out HB.out) HC1.out (by have := HN.out.l10; omega) hi0 hi1 rfl (HN.out.links i hi0 hi1)).mono ?_
          rintro e w2 ⟨rfl, hb⟩
          clear x0 x1 x2 x3 x4 x5 x6 x7 x8 x9 x10 x11 x12
          have HB2 := Aside0.mk (below_step HB.out hb)
          have HO2 := Aside0.mk ((hb.block bx (blk_lt HO.out)).trans HO.out)
          clear hb
          go_wp2_with fail
          go_roundg k1
          case measure => have := HK.out; omega
          case rel => exact ⟨i + 1, (by first | rfl | rw [hw1]), ⟨by have := HK.out; omega⟩, HB2, HO2⟩
        · have hlt : decide (i < (L.length : Int)) = false := decide_eq_false hi1
          go_wp2_with fail
          refine (drumlineref5_dists.calls 100 A0 c0 P A1 c1 L a2 a3 a4 a5 a6 a7 a8 a9 a10 a11 a12 0 d _ (Kd.C_below HR0.out HB.out) HC0.out (Kd.C_below HR1.out HB.out) HC1.out HD.out).mono ?_
          rintro e w4 ⟨v4, rfl, ho4, hb⟩
          obtain ⟨A4, c4, rfl⟩ := Kd.R_slice ho4
          have R4 := Aside0.mk (Kd.R_reads' ho4).2.2
          clear ho4
          clear x0 x1 x2 x3 x4 x5 x6 x7 x8 x9 x10 x11 x12
          have HB4 := Aside0.mk (below_step HB.out hb)
          have HO4 := Aside0.mk ((hb.block bx (blk_lt HO.out)).trans HO.out)
          clear hb
          go_wp2_with fail
          clear hlt
          go_loopg [9] (d.length + 1) (fun kq v9 w' => ∃ i : Int, v9 = .int .i64 i ∧ Aside0 (kq + i = d.length + 1 ∧ 0 ≤ i) ∧ Aside0 (Below w4.heap.size w4 w'))
          case atStart => exact ⟨0, rfl, ⟨by omega⟩, ⟨Below.refl _ _⟩⟩
          case round =>
            clear HK hi1
            obtain ⟨i, rfl, HK, HBx⟩ := hrel
            by_cases hi1 : i < (d.length : Int)
            · have hi0 := HK.out.2
              obtain ⟨ad4, e4, y0⟩ := Kd.at_int (Kd.C_below R4.out HBx.out) i hi0 hi1
              cases e4
              have hlt : decide (i < (d.length : Int)) = true := decide_eq_true hi1
              have p0_ := eq_true hi0
              have p1_ := eq_true hi1
              have hw1 : wrap64 (i + 1) = i + 1 := by have := HDL.out; unfold wrap64; omega
              have hge : decide (rd d i < 0) = false := decide_eq_false (by
                have hm : rd d i ∈ d := by
                  have hlt' : i.toNat < d.length := by omega
                  have e : rd d i = d[i.toNat] := by simp [rd, List.getD_eq_getElem?_getD, hlt']
                  rw [e]; exact List.getElem_mem hlt'
                have := HP.out _ hm; omega)
              cases gk with
              | zero => exact absurd HK.out (by omega)
              | succ k1 =>
              go_wp2_with fail
              go_roundg k1
              case measure => have := HK.out; omega
              case rel => exact ⟨i + 1, (by first | rfl | rw [hw1]), ⟨by have := HK.out; omega⟩, HBx⟩
            · have hlt : decide (i < (d.length : Int)) = false := decide_eq_false hi1
              go_wp2_with fail
              go_ret2
              exact ⟨rfl, below_step HB4.out HBx.out⟩
set_option maxHeartbeats 4000000 in
set_option maxRecDepth 4000 in
theorem good_yes (A0 : Option Addr) (c0 : Nat) (P : List S60) (A1 : Option Addr) (c1 : Nat) (L : List S37) (a2 a3 a4 a5 a6 a7 a8 a9 a10 a11 a12 : Int) (part : Int) (d : List Int) (w : World) (hr0 : Kd.C k60 w A0 P.length P) (hc0 : P.length ≤ c0) (hr1 : Kd.C k37 w A1 L.length L) (hc1 : L.length ≤ c1) (hn : NetOk P L) (hd : drumlineref5_dists.f 100 P L a2 a3 a4 a5 a6 a7 a8 a9 a10 a11 a12 0 = some d) (hp : ∀ x, x ∈ d → 0 ≤ x) (hdl : d.length ≤ 6) (h0 : 0 ≤ part) (h1 : part < P.length) :
    Calls Tryd.prog 33 #[.agg #[.slice A0 P.length c0, .slice A1 L.length c1, .int .i64 a2, .int .i64 a3, .int .i64 a4, .int .i64 a5, .int .i64 a6, .int .i64 a7, .int .i64 a8, .int .i64 a9, .int .i64 a10, .int .i64 a11, .int .i64 a12], .int .i64 part] w fun e w' => e = .returned (.bool true) ∧ Below w.heap.size w w' := by
  have hc := fun (W : World) (hB : Below w.heap.size w W) => rcheck_yes A0 c0 P A1 c1 L a2 a3 a4 a5 a6 a7 a8 a9 a10 a11 a12 d W (Kd.C_below hr0 hB) hc0 (Kd.C_below hr1 hB) hc1 hn hd hp hdl
  have HC := Aside0.mk hc
  have HH := Aside0.mk (And.intro h0 h1)
  clear hc hr0 hr1 hc0 hc1 hn hd hp hdl h0 h1
  go_enter Tryd.func33, Tryd.ntmps33
  go_upto_region 1 with fail
  have HO1 : Aside0 ((w.alloc (.cells #[.slice A0 P.length c0, .slice A1 L.length c1, .int .i64 a2, .int .i64 a3, .int .i64 a4, .int .i64 a5, .int .i64 a6, .int .i64 a7, .int .i64 a8, .int .i64 a9, .int .i64 a10, .int .i64 a11, .int .i64 a12] 25)).heap[w.heap.size]? = some (.cells #[.slice A0 P.length c0, .slice A1 L.length c1, .int .i64 a2, .int .i64 a3, .int .i64 a4, .int .i64 a5, .int .i64 a6, .int .i64 a7, .int .i64 a8, .int .i64 a9, .int .i64 a10, .int .i64 a11, .int .i64 a12] 25)) := ⟨heap_alloc_new _ _⟩
  have HB1 := Aside0.mk (below_alloc (Below.refl w.heap.size w) (Obj.cells #[.slice A0 P.length c0, .slice A1 L.length c1, .int .i64 a2, .int .i64 a3, .int .i64 a4, .int .i64 a5, .int .i64 a6, .int .i64 a7, .int .i64 a8, .int .i64 a9, .int .i64 a10, .int .i64 a11, .int .i64 a12] 25))
  generalize w.alloc (.cells #[.slice A0 P.length c0, .slice A1 L.length c1, .int .i64 a2, .int .i64 a3, .int .i64 a4, .int .i64 a5, .int .i64 a6, .int .i64 a7, .int .i64 a8, .int .i64 a9, .int .i64 a10, .int .i64 a11, .int .i64 a12] 25) = w1 at *
  obtain ⟨bx, hbx⟩ : ∃ bx, bx = w.heap.size := ⟨_, rfl⟩
  rw [← hbx]
  rw [← hbx] at HO1
  clear hbx
  have x0 : w1.cell? ⟨bx, 0, none⟩ = some (.slice A0 P.length c0) := (blk_cell HO1.out 0).trans rfl
  have x1 : w1.cell? ⟨bx, 1, none⟩ = some (.slice A1 L.length c1) := (blk_cell HO1.out 1).trans rfl
  have x2 : w1.cell? ⟨bx, 2, none⟩ = some (.int .i64 a2) := (blk_cell HO1.out 2).trans rfl
  have x3 : w1.cell? ⟨bx, 3, none⟩ = some (.int .i64 a3) := (blk_cell HO1.out 3).trans rfl
  have x4 : w1.cell? ⟨bx, 4, none⟩ = some (.int .i64 a4) := (blk_cell HO1.out 4).trans rfl
  have x5 : w1.cell? ⟨bx, 5, none⟩ = some (.int .i64 a5) := (blk_cell HO1.out 5).trans rfl
  have x6 : w1.cell? ⟨bx, 6, none⟩ = some (.int .i64 a6) := (blk_cell HO1.out 6).trans rfl
  have x7 : w1.cell? ⟨bx, 7, none⟩ = some (.int .i64 a7) := (blk_cell HO1.out 7).trans rfl
  have x8 : w1.cell? ⟨bx, 8, none⟩ = some (.int .i64 a8) := (blk_cell HO1.out 8).trans rfl
  have x9 : w1.cell? ⟨bx, 9, none⟩ = some (.int .i64 a9) := (blk_cell HO1.out 9).trans rfl
  have x10 : w1.cell? ⟨bx, 10, none⟩ = some (.int .i64 a10) := (blk_cell HO1.out 10).trans rfl
  have x11 : w1.cell? ⟨bx, 11, none⟩ = some (.int .i64 a11) := (blk_cell HO1.out 11).trans rfl
  have x12 : w1.cell? ⟨bx, 12, none⟩ = some (.int .i64 a12) := (blk_cell HO1.out 12).trans rfl
  go_wp2_with fail
  refine (HC.out _ HB1.out).mono ?_
  rintro e w2 ⟨rfl, hb⟩
  clear x0 x1 x2 x3 x4 x5 x6 x7 x8 x9 x10 x11 x12
  have HB2 := Aside0.mk (below_step HB1.out hb)
  have HO2 := Aside0.mk ((hb.block bx (blk_lt HO1.out)).trans HO1.out)
  clear hb
  have xa0 : w2.cell? ⟨bx, 0, none⟩ = some (.slice A0 P.length c0) := (blk_cell HO2.out 0).trans rfl
  go_wp2_with fail
  refine (is_yes part (P.length : Int) _ HH.out.1 HH.out.2).mono ?_
  rintro e w3 ⟨rfl, hb⟩
  have HB3 := Aside0.mk (below_step HB2.out hb)
  clear hb
  go_wp2_with fail
  go_ret
  exact ⟨rfl, HB3.out⟩
end Go.Proofs.YtkhlndhleiaokaaDoor.MHo
namespace Go.Proofs.YtkhlndhleiaokaaDoor.MHo
open Go.RowKit Go.Proofs.YtkhlndhleiaokaaDoorW.PrintWords Go.Proofs.YtkhlndhleiaokaaDoorW.PrintLast Go.Proofs.YtkhlndhleiaokaaDoorW.PrintMore
attribute [local go_sem] mp_u32s mp_u32m mp_u8s mp_u8m max2_int min2_int max_two min_two max_three min_three max_four min_four   -- for this text's walks alone
set_option linter.unusedVariables false
set_option linter.unusedSimpArgs false

/-! ### drumlineref5_Good: function 33: of networks that may be (of others this tells nothing) -/
def drumlineref5_Good.f (l0_0 : List S60) (l0_1 : List S37) (a0_2 a0_3 a0_4 a0_5 a0_6 a0_7 a0_8 a0_9 a0_10 a0_11 a0_12 : Int) (a1 : Int) : Option Bool := if netB l0_0 l0_1 = true ∧ 0 ≤ a1 ∧ a1 < (l0_0.length : Int) then (drumlineref5_dists.f 100 l0_0 l0_1 a0_2 a0_3 a0_4 a0_5 a0_6 a0_7 a0_8 a0_9 a0_10 a0_11 a0_12 0).bind fun d => if d.length ≤ 6 ∧ d.all (fun x => decide (0 ≤ x)) = true then some true else none else none
theorem drumlineref5_Good.calls (A0_0 : Option Addr) (c0_0 : Nat) (l0_0 : List S60) (A0_1 : Option Addr) (c0_1 : Nat) (l0_1 : List S37) (a0_2 a0_3 a0_4 a0_5 a0_6 a0_7 a0_8 a0_9 a0_10 a0_11 a0_12 : Int) (a1 : Int) (r : Bool) (w : World) (hr0_0 : Kd.C k60 w A0_0 l0_0.length l0_0) (hc0_0 : l0_0.length ≤ c0_0) (hr0_1 : Kd.C k37 w A0_1 l0_1.length l0_1) (hc0_1 : l0_1.length ≤ c0_1) (h : drumlineref5_Good.f l0_0 l0_1 a0_2 a0_3 a0_4 a0_5 a0_6 a0_7 a0_8 a0_9 a0_10 a0_11 a0_12 a1 = some r) :
  Calls Tryd.prog 33 #[.agg #[.slice A0_0 l0_0.length c0_0, .slice A0_1 l0_1.length c0_1, .int .i64 a0_2, .int .i64 a0_3, .int .i64 a0_4, .int .i64 a0_5, .int .i64 a0_6, .int .i64 a0_7, .int .i64 a0_8, .int .i64 a0_9, .int .i64 a0_10, .int .i64 a0_11, .int .i64 a0_12], .int .i64 a1] w fun e w' => e = .returned (.bool r) ∧ Below w.heap.size w w' := by
 unfold drumlineref5_Good.f at h
 split at h
 ·rename_i hn
  obtain ⟨hn1, hn2, hn3⟩ := hn
  obtain ⟨d, hd, h⟩ := Option.bind_eq_some_iff.mp h
  split at h
  ·rename_i he
   injection h with h
   subst h
   exact good_yes A0_0 c0_0 l0_0 A0_1 c0_1 l0_1 a0_2 a0_3 a0_4 a0_5 a0_6 a0_7 a0_8 a0_9 a0_10 a0_11 a0_12 a1 d w hr0_0 hc0_0 hr0_1 hc0_1 (netB_ok hn1) hd (fun x hx => of_decide_eq_true (List.all_eq_true.mp he.2 x hx)) he.1 hn2 hn3
  ·cases h
 ·cases h


/-! ### drumlineref5_out: function 65 -/
mutual
def drumlineref5_out.j0 : Nat → Bool → List (S60) → List (S37) → Int → Int → Int → Int → Int → Int → Int → Int → Int → Int → Int → Option (Int)
 | 0, _, _, _, _, _, _, _, _, _, _, _, _, _, _ => none
 | k + 1, x3, x317000, x317001, x317002, x317003, x317004, x317005, x317006, x317007, x317008, x317009, x317010, x317011, x317012 => if x3 = true then (some 1) else (if x317006 < 0 then (drumlineref5_out.j1 k true x317000 x317001 x317002 x317003 x317004 x317005 x317006 x317007 x317008 x317009 x317010 x317011 x317012) else (drumlineref5_out.j1 k (decide (x317006 > 500)) x317000 x317001 x317002 x317003 x317004 x317005 x317006 x317007 x317008 x317009 x317010 x317011 x317012))
def drumlineref5_out.j1 : Nat → Bool → List (S60) → List (S37) → Int → Int → Int → Int → Int → Int → Int → Int → Int → Int → Int → Option (Int)
 | 0, _, _, _, _, _, _, _, _, _, _, _, _, _, _ => none
 | k + 1, x12, x317000, x317001, x317002, x317003, x317004, x317005, x317006, x317007, x317008, x317009, x317010, x317011, x317012 => if x12 = true then (some 2) else (if x317007 < 0 then (drumlineref5_out.j2 k true x317000 x317001 x317002 x317003 x317004 x317005 x317006 x317007 x317008 x317009 x317010 x317011 x317012) else (drumlineref5_out.j2 k (decide (x317007 > 400000)) x317000 x317001 x317002 x317003 x317004 x317005 x317006 x317007 x317008 x317009 x317010 x317011 x317012))
def drumlineref5_out.j2 : Nat → Bool → List (S60) → List (S37) → Int → Int → Int → Int → Int → Int → Int → Int → Int → Int → Int → Option (Int)
 | 0, _, _, _, _, _, _, _, _, _, _, _, _, _, _ => none
 | k + 1, x21, x317000, x317001, x317002, x317003, x317004, x317005, x317006, x317007, x317008, x317009, x317010, x317011, x317012 => if x21 = true then (some 3) else (if x317008 < 1 then (drumlineref5_out.j3 k true x317000 x317001 x317002 x317003 x317004 x317005 x317006 x317007 x317008 x317009 x317010 x317011 x317012) else (drumlineref5_out.j3 k (decide (x317008 > 200)) x317000 x317001 x317002 x317003 x317004 x317005 x317006 x317007 x317008 x317009 x317010 x317011 x317012))
def drumlineref5_out.j3 : Nat → Bool → List (S60) → List (S37) → Int → Int → Int → Int → Int → Int → Int → Int → Int → Int → Int → Option (Int)
 | 0, _, _, _, _, _, _, _, _, _, _, _, _, _, _ => none
 | k + 1, x30, x317000, x317001, x317002, x317003, x317004, x317005, x317006, x317007, x317008, x317009, x317010, x317011, x317012 => if x30 = true then (some 4) else (if x317009 < 0 then (some 5) else (if x317009 > 20 then (some 5) else (some 0)))
end
def drumlineref5_out.f (k : Nat) (l0_0 : List (S60)) (l0_1 : List (S37)) (a0_2 : Int) (a0_3 : Int) (a0_4 : Int) (a0_5 : Int) (a0_6 : Int) (a0_7 : Int) (a0_8 : Int) (a0_9 : Int) (a0_10 : Int) (a0_11 : Int) (a0_12 : Int) : Option (Int) := if a0_2 < 1000 then (drumlineref5_out.j0 k true l0_0 l0_1 a0_2 a0_3 a0_4 a0_5 a0_6 a0_7 a0_8 a0_9 a0_10 a0_11 a0_12) else (drumlineref5_out.j0 k (decide (a0_2 > 1000000)) l0_0 l0_1 a0_2 a0_3 a0_4 a0_5 a0_6 a0_7 a0_8 a0_9 a0_10 a0_11 a0_12)
theorem drumlineref5_out.mono_l : ∀ k, (∀ y0 y1 y2 y3 y4 y5 y6 y7 y8 y9 y10 y11 y12 y13, LeO (drumlineref5_out.j0 k y0 y1 y2 y3 y4 y5 y6 y7 y8 y9 y10 y11 y12 y13) (drumlineref5_out.j0 (k + 1) y0 y1 y2 y3 y4 y5 y6 y7 y8 y9 y10 y11 y12 y13)) ∧ (∀ y0 y1 y2 y3 y4 y5 y6 y7 y8 y9 y10 y11 y12 y13, LeO (drumlineref5_out.j1 k y0 y1 y2 y3 y4 y5 y6 y7 y8 y9 y10 y11 y12 y13) (drumlineref5_out.j1 (k + 1) y0 y1 y2 y3 y4 y5 y6 y7 y8 y9 y10 y11 y12 y13)) ∧ (∀ y0 y1 y2 y3 y4 y5 y6 y7 y8 y9 y10 y11 y12 y13, LeO (drumlineref5_out.j2 k y0 y1 y2 y3 y4 y5 y6 y7 y8 y9 y10 y11 y12 y13) (drumlineref5_out.j2 (k + 1) y0 y1 y2 y3 y4 y5 y6 y7 y8 y9 y10 y11 y12 y13)) ∧ (∀ y0 y1 y2 y3 y4 y5 y6 y7 y8 y9 y10 y11 y12 y13, LeO (drumlineref5_out.j3 k y0 y1 y2 y3 y4 y5 y6 y7 y8 y9 y10 y11 y12 y13) (drumlineref5_out.j3 (k + 1) y0 y1 y2 y3 y4 y5 y6 y7 y8 y9 y10 y11 y12 y13))
 | 0 => ⟨fun _ _ _ _ _ _ _ _ _ _ _ _ _ _ r h => by simp [drumlineref5_out.j0] at h, fun _ _ _ _ _ _ _ _ _ _ _ _ _ _ r h => by simp [drumlineref5_out.j1] at h, fun _ _ _ _ _ _ _ _ _ _ _ _ _ _ r h => by simp [drumlineref5_out.j2] at h, fun _ _ _ _ _ _ _ _ _ _ _ _ _ _ r h => by simp [drumlineref5_out.j3] at h⟩
 | k + 1 => by
  obtain ⟨ih0, ih1, ih2, ih3⟩ := drumlineref5_out.mono_l k
  refine ⟨?_, ?_, ?_, ?_⟩
  ·intro y0 y1 y2 y3 y4 y5 y6 y7 y8 y9 y10 y11 y12 y13
   unfold drumlineref5_out.j0
   repeat' first
   | (with_reducible exact ih0 _ _ _ _ _ _ _ _ _ _ _ _ _ _)
   | (with_reducible exact ih1 _ _ _ _ _ _ _ _ _ _ _ _ _ _)
   | (with_reducible exact ih2 _ _ _ _ _ _ _ _ _ _ _ _ _ _)
   | (with_reducible exact ih3 _ _ _ _ _ _ _ _ _ _ _ _ _ _)
   | (with_reducible exact LeO.refl _)
   | (with_reducible exact LeO.none _)
   | (with_reducible refine LeO.ite ?_ ?_)
   | (with_reducible refine LeO.bind ?_ (fun _ => ?_))
   | exact ih0 _ _ _ _ _ _ _ _ _ _ _ _ _ _
   | exact ih1 _ _ _ _ _ _ _ _ _ _ _ _ _ _
   | exact ih2 _ _ _ _ _ _ _ _ _ _ _ _ _ _
   | exact ih3 _ _ _ _ _ _ _ _ _ _ _ _ _ _
   | exact LeO.none _
   | refine LeO.ite ?_ ?_
   | refine LeO.bind ?_ (fun _ => ?_)
  ·intro y0 y1 y2 y3 y4 y5 y6 y7 y8 y9 y10 y11 y12 y13
   unfold drumlineref5_out.j1
   repeat' first
   | (with_reducible exact ih0 _ _ _ _ _ _ _ _ _ _ _ _ _ _)
   | (with_reducible exact ih1 _ _ _ _ _ _ _ _ _ _ _ _ _ _)
   | (with_reducible exact ih2 _ _ _ _ _ _ _ _ _ _ _ _ _ _)
   | (with_reducible exact ih3 _ _ _ _ _ _ _ _ _ _ _ _ _ _)
   | (with_reducible exact LeO.refl _)
   | (with_reducible exact LeO.none _)
   | (with_reducible refine LeO.ite ?_ ?_)
   | (with_reducible refine LeO.bind ?_ (fun _ => ?_))
   | exact ih0 _ _ _ _ _ _ _ _ _ _ _ _ _ _
   | exact ih1 _ _ _ _ _ _ _ _ _ _ _ _ _ _
   | exact ih2 _ _ _ _ _ _ _ _ _ _ _ _ _ _
   | exact ih3 _ _ _ _ _ _ _ _ _ _ _ _ _ _
   | exact LeO.none _
   | refine LeO.ite ?_ ?_
   | refine LeO.bind ?_ (fun _ => ?_)
  ·intro y0 y1 y2 y3 y4 y5 y6 y7 y8 y9 y10 y11 y12 y13
   unfold drumlineref5_out.j2
   repeat' first
   | (with_reducible exact ih0 _ _ _ _ _ _ _ _ _ _ _ _ _ _)
   | (with_reducible exact ih1 _ _ _ _ _ _ _ _ _ _ _ _ _ _)
   | (with_reducible exact ih2 _ _ _ _ _ _ _ _ _ _ _ _ _ _)
   | (with_reducible exact ih3 _ _ _ _ _ _ _ _ _ _ _ _ _ _)
   | (with_reducible exact LeO.refl _)
   | (with_reducible exact LeO.none _)
   | (with_reducible refine LeO.ite ?_ ?_)
   | (with_reducible refine LeO.bind ?_ (fun _ => ?_))
   | exact ih0 _ _ _ _ _ _ _ _ _ _ _ _ _ _
   | exact ih1 _ _ _ _ _ _ _ _ _ _ _ _ _ _
   | exact ih2 _ _ _ _ _ _ _ _ _ _ _ _ _ _
   | exact ih3 _ _ _ _ _ _ _ _ _ _ _ _ _ _
   | exact LeO.none _
   | refine LeO.ite ?_ ?_
   | refine LeO.bind ?_ (fun _ => ?_)
  ·intro y0 y1 y2 y3 y4 y5 y6 y7 y8 y9 y10 y11 y12 y13
   unfold drumlineref5_out.j3
   repeat' first
   | (with_reducible exact ih0 _ _ _ _ _ _ _ _ _ _ _ _ _ _)
   | (with_reducible exact ih1 _ _ _ _ _ _ _ _ _ _ _ _ _ _)
   | (with_reducible exact ih2 _ _ _ _ _ _ _ _ _ _ _ _ _ _)
   | (with_reducible exact ih3 _ _ _ _ _ _ _ _ _ _ _ _ _ _)
   | (with_reducible exact LeO.refl _)
   | (with_reducible exact LeO.none _)
   | (with_reducible refine LeO.ite ?_ ?_)
   | (with_reducible refine LeO.bind ?_ (fun _ => ?_))
   | exact ih0 _ _ _ _ _ _ _ _ _ _ _ _ _ _
   | exact ih1 _ _ _ _ _ _ _ _ _ _ _ _ _ _
   | exact ih2 _ _ _ _ _ _ _ _ _ _ _ _ _ _
   | exact ih3 _ _ _ _ _ _ _ _ _ _ _ _ _ _
   | exact LeO.none _
   | refine LeO.ite ?_ ?_
   | refine LeO.bind ?_ (fun _ => ?_)
theorem drumlineref5_out.mono : ∀ a0 a1 a2 a3 a4 a5 a6 a7 a8 a9 a10 a11 a12 k, LeO (drumlineref5_out.f k a0 a1 a2 a3 a4 a5 a6 a7 a8 a9 a10 a11 a12) (drumlineref5_out.f (k + 1) a0 a1 a2 a3 a4 a5 a6 a7 a8 a9 a10 a11 a12) := by
 intro a0 a1 a2 a3 a4 a5 a6 a7 a8 a9 a10 a11 a12 k
 obtain ⟨ih0, ih1, ih2, ih3⟩ := drumlineref5_out.mono_l k
 unfold drumlineref5_out.f
 repeat' first
   | (with_reducible exact ih0 _ _ _ _ _ _ _ _ _ _ _ _ _ _)
   | (with_reducible exact ih1 _ _ _ _ _ _ _ _ _ _ _ _ _ _)
   | (with_reducible exact ih2 _ _ _ _ _ _ _ _ _ _ _ _ _ _)
   | (with_reducible exact ih3 _ _ _ _ _ _ _ _ _ _ _ _ _ _)
   | (with_reducible exact LeO.refl _)
   | (with_reducible exact LeO.none _)
   | (with_reducible refine LeO.ite ?_ ?_)
   | (with_reducible refine LeO.bind ?_ (fun _ => ?_))
   | exact ih0 _ _ _ _ _ _ _ _ _ _ _ _ _ _
   | exact ih1 _ _ _ _ _ _ _ _ _ _ _ _ _ _
   | exact ih2 _ _ _ _ _ _ _ _ _ _ _ _ _ _
   | exact ih3 _ _ _ _ _ _ _ _ _ _ _ _ _ _
   | exact LeO.none _
   | refine LeO.ite ?_ ?_
   | refine LeO.bind ?_ (fun _ => ?_)
set_option maxHeartbeats 8000000 in
set_option maxRecDepth 100000 in
theorem drumlineref5_out.calls (k : Nat) (A0_0 : Option Addr) (c0_0 : Nat) (l0_0 : List (S60)) (A0_1 : Option Addr) (c0_1 : Nat) (l0_1 : List (S37)) (a0_2 : Int) (a0_3 : Int) (a0_4 : Int) (a0_5 : Int) (a0_6 : Int) (a0_7 : Int) (a0_8 : Int) (a0_9 : Int) (a0_10 : Int) (a0_11 : Int) (a0_12 : Int) (r : Int) (w : World) (hr0_0 : Kd.C k60 w A0_0 l0_0.length l0_0) (hc0_0 : l0_0.length ≤ c0_0) (hr0_1 : Kd.C k37 w A0_1 l0_1.length l0_1) (hc0_1 : l0_1.length ≤ c0_1) (h : drumlineref5_out.f k l0_0 l0_1 a0_2 a0_3 a0_4 a0_5 a0_6 a0_7 a0_8 a0_9 a0_10 a0_11 a0_12 = some r) :
  Calls Tryd.prog 65 #[.agg #[.slice A0_0 l0_0.length c0_0, .slice A0_1 l0_1.length c0_1, .int .i64 a0_2, .int .i64 a0_3, .int .i64 a0_4, .int .i64 a0_5, .int .i64 a0_6, .int .i64 a0_7, .int .i64 a0_8, .int .i64 a0_9, .int .i64 a0_10, .int .i64 a0_11, .int .i64 a0_12]] w fun e w' => e = .returned (.int .i64 r) ∧ Below w.heap.size w w' := by
 have hu25 := Tryd.underlying25
 have HR0_0 := Aside0.mk hr0_0
 have HC0_0 := Aside0.mk hc0_0
 clear hr0_0 hc0_0
 have HR0_1 := Aside0.mk hr0_1
 have HC0_1 := Aside0.mk hc0_1
 clear hr0_1 hc0_1
 have HB := Aside0.mk (Below.refl w.heap.size w)
 have H : (if a0_2 < 1000 then (drumlineref5_out.j0 k true l0_0 l0_1 a0_2 a0_3 a0_4 a0_5 a0_6 a0_7 a0_8 a0_9 a0_10 a0_11 a0_12) else (drumlineref5_out.j0 k (decide (a0_2 > 1000000)) l0_0 l0_1 a0_2 a0_3 a0_4 a0_5 a0_6 a0_7 a0_8 a0_9 a0_10 a0_11 a0_12)) = some r := h
 clear h
 have HC2 := Aside0.mk H
 clear H
 go_enter Tryd.func65, Tryd.ntmps65
 go_upto_region 1 with (first | ((with_reducible refine gate_dst (N := 1) rfl ?_); refine box_event ?hg (N := 1) ?hd (cs := #[.slice A0_0 l0_0.length c0_0, .slice A0_1 l0_1.length c0_1, .int .i64 a0_2, .int .i64 a0_3, .int .i64 a0_4, .int .i64 a0_5, .int .i64 a0_6, .int .i64 a0_7, .int .i64 a0_8, .int .i64 a0_9, .int .i64 a0_10, .int .i64 a0_11, .int .i64 a0_12]) (t := 25) ?hr ?_; (case hd => rfl); (case hg => rfl); (case hr => first | (go_simp; done) | (go_simp; rfl)); intro gb316 hg w3 hbox hb; have n0_ := Aside0.mk (below_step (by repeat (first | (with_reducible first | exact HB.out | apply below_alloc | apply pw_below_drewN | apply below_drew1) | exact HB.out)) hb); have n1_ := Aside0.mk (hbox); have n2_ := Aside0.mk ((by rw [hg]; exact (below_size (by repeat (first | (with_reducible first | exact HB.out | apply below_alloc | apply pw_below_drewN | apply below_drew1) | exact HB.out))) : w.heap.size ≤ gb316)); have n3_ := Aside0.mk ((by rw [hg]; exact (below_size (by repeat (first | (with_reducible first | exact HB.out | apply below_alloc | apply pw_below_drewN | apply below_drew1) | exact HB.out))) : w.heap.size ≤ gb316)); clear HB; have HB := n0_; have BK316 := n1_; have GW316 := n2_; have GE316 := n3_; clear n0_ n1_ n2_ n3_; clear hb hbox hg))
 (try simp only [Act.put, List.setIfInBounds_toArray, List.set_cons_zero, List.set_cons_succ])
 go_cut [3] (fun v3 wc => ∃ (kq : Nat) (x3_1 : Bool), v3 = .bool x3_1 ∧ Aside0 (drumlineref5_out.j0 kq x3_1 l0_0 l0_1 a0_2 a0_3 a0_4 a0_5 a0_6 a0_7 a0_8 a0_9 a0_10 a0_11 a0_12 = some r) ∧ Aside0 (kq ≤ k) ∧ Aside0 (wc.heap[gb316]? = some (.cells #[(.slice A0_0 l0_0.length c0_0), (.slice A0_1 l0_1.length c0_1), .int .i64 a0_2, .int .i64 a0_3, .int .i64 a0_4, .int .i64 a0_5, .int .i64 a0_6, .int .i64 a0_7, .int .i64 a0_8, .int .i64 a0_9, .int .i64 a0_10, .int .i64 a0_11, .int .i64 a0_12] 25 (0, 0))) ∧ Aside0 (Below w.heap.size w wc))
 case first =>
  have H := HC2.out
  clear HC2
  by_cases c4 : a0_2 < 1000
  ·rw [if_pos c4] at H
   have c4b0 : decide (a0_2 < 1000) = true := decide_eq_true c4
   clear c4
   (first | rw [c4b0] | (simp only [i64_w, i32_w]; rw [c4b0]) | skip)
   have H' := Aside0.mk H
   clear H
   obtain ⟨hcz5_0, hcz5_1, hcz5_2, hcz5_3, hcz5_4, hcz5_5, hcz5_6, hcz5_7, hcz5_8, hcz5_9, hcz5_10, hcz5_11, hcz5_12⟩ := cellsK13 BK316.out
   obtain ⟨hfz5_0, hfz5_1, hfz5_2, hfz5_3, hfz5_4, hfz5_5, hfz5_6, hfz5_7, hfz5_8, hfz5_9, hfz5_10, hfz5_11, hfz5_12⟩ := frozK13 BK316.out
   go_wp2
   go_meet
   case rel => exact ⟨_, (true), (by first | rfl | (simp; done) | (simp [*]; done) | (have := TNA.out; unfold wrap64; congr 1; omega) | (unfold wrap64; omega)), H', ⟨by first | omega | exact Nat.le_refl _⟩, ⟨by (with_reducible repeat (first | refine blk_drewN ?_ _ | refine blk_drew ?_ | refine blk_alloc ?_ _)); exact BK316.out⟩, ⟨by repeat (first | (with_reducible first | exact HB.out | apply below_alloc | apply pw_below_drewN | apply below_drew1 | refine below_set ?_ GE316.out) | exact HB.out)⟩⟩
  ·rw [if_neg c4] at H
   have c4b0 : decide (a0_2 < 1000) = false := decide_eq_false c4
   clear c4
   (first | rw [c4b0] | (simp only [i64_w, i32_w]; rw [c4b0]) | skip)
   have H' := Aside0.mk H
   clear H
   obtain ⟨hcz6_0, hcz6_1, hcz6_2, hcz6_3, hcz6_4, hcz6_5, hcz6_6, hcz6_7, hcz6_8, hcz6_9, hcz6_10, hcz6_11, hcz6_12⟩ := cellsK13 BK316.out
   obtain ⟨hfz6_0, hfz6_1, hfz6_2, hfz6_3, hfz6_4, hfz6_5, hfz6_6, hfz6_7, hfz6_8, hfz6_9, hfz6_10, hfz6_11, hfz6_12⟩ := frozK13 BK316.out
   go_wp2
   go_meet
   case rel => exact ⟨_, (decide (a0_2 > 1000000)), (by first | rfl | (simp; done) | (simp [*]; done) | (have := TNA.out; unfold wrap64; congr 1; omega) | (unfold wrap64; omega)), H', ⟨by first | omega | exact Nat.le_refl _⟩, ⟨by (with_reducible repeat (first | refine blk_drewN ?_ _ | refine blk_drew ?_ | refine blk_alloc ?_ _)); exact BK316.out⟩, ⟨by repeat (first | (with_reducible first | exact HB.out | apply below_alloc | apply pw_below_drewN | apply below_drew1 | refine below_set ?_ GE316.out) | exact HB.out)⟩⟩
 case rest =>
  clear HC2
  try clear p2
  try clear c4
  try clear c4b0
  try clear c6
  try clear hcz5_0
  try clear hcz5_1
  try clear hcz5_10
  try clear hcz5_11
  try clear hcz5_12
  try clear hcz5_2
  try clear hcz5_3
  try clear hcz5_4
  try clear hcz5_5
  try clear hcz5_6
  try clear hcz5_7
  try clear hcz5_8
  try clear hcz5_9
  try clear hcz6_0
  try clear hcz6_1
  try clear hcz6_10
  try clear hcz6_11
  try clear hcz6_12
  try clear hcz6_2
  try clear hcz6_3
  try clear hcz6_4
  try clear hcz6_5
  try clear hcz6_6
  try clear hcz6_7
  try clear hcz6_8
  try clear hcz6_9
  try clear hfz5_0
  try clear hfz5_1
  try clear hfz5_10
  try clear hfz5_11
  try clear hfz5_12
  try clear hfz5_2
  try clear hfz5_3
  try clear hfz5_4
  try clear hfz5_5
  try clear hfz5_6
  try clear hfz5_7
  try clear hfz5_8
  try clear hfz5_9
  try clear hfz6_0
  try clear hfz6_1
  try clear hfz6_10
  try clear hfz6_11
  try clear hfz6_12
  try clear hfz6_2
  try clear hfz6_3
  try clear hfz6_4
  try clear hfz6_5
  try clear hfz6_6
  try clear hfz6_7
  try clear hfz6_8
  try clear hfz6_9
  obtain ⟨kq, x3_1, rfl, HA, HJ1, BK316, HB⟩ := hcut
  cases kq with
  | zero => exact absurd HA.out (by simp [drumlineref5_out.j0])
  | succ kj1 =>
   have H := HA.out
   clear HA
   simp only [drumlineref5_out.j0] at H
   by_cases c7 : x3_1 = true
   ·subst c7
    have H1 : (some 1) = some r := by rw [if_pos rfl] at H; exact H
    clear H
    have H := H1
    clear H1
    obtain rfl := Option.some.inj H
    go_wp2
    go_ret
    exact ⟨by first | rfl | (simp [errW_none, errW_some] <;> rfl) | (simp [*, errW_none, errW_some] <;> rfl), by repeat (first | (with_reducible first | exact HB.out | apply below_alloc | apply pw_below_drewN | apply below_drew1 | refine below_set ?_ GE316.out) | exact HB.out)⟩
   ·replace c7 := Bool.eq_false_iff.mpr c7
    subst c7
    have H1 : (if a0_6 < 0 then (drumlineref5_out.j1 kj1 true l0_0 l0_1 a0_2 a0_3 a0_4 a0_5 a0_6 a0_7 a0_8 a0_9 a0_10 a0_11 a0_12) else (drumlineref5_out.j1 kj1 (decide (a0_6 > 500)) l0_0 l0_1 a0_2 a0_3 a0_4 a0_5 a0_6 a0_7 a0_8 a0_9 a0_10 a0_11 a0_12)) = some r := by rw [if_neg (show ¬ (false = true) by decide)] at H; exact H
    clear H
    have H := H1
    clear H1
    have HC8 := Aside0.mk H
    clear H
    go_upto_region 3 with (fail)
    go_cut [12] (fun v12 wc => ∃ (kq : Nat) (x12_7 : Bool), v12 = .bool x12_7 ∧ Aside0 (drumlineref5_out.j1 kq x12_7 l0_0 l0_1 a0_2 a0_3 a0_4 a0_5 a0_6 a0_7 a0_8 a0_9 a0_10 a0_11 a0_12 = some r) ∧ Aside0 (kq ≤ kj1) ∧ Aside0 (wc.heap[gb316]? = some (.cells #[(.slice A0_0 l0_0.length c0_0), (.slice A0_1 l0_1.length c0_1), .int .i64 a0_2, .int .i64 a0_3, .int .i64 a0_4, .int .i64 a0_5, .int .i64 a0_6, .int .i64 a0_7, .int .i64 a0_8, .int .i64 a0_9, .int .i64 a0_10, .int .i64 a0_11, .int .i64 a0_12] 25 (0, 0))) ∧ Aside0 (Below w.heap.size w wc))
    case first =>
     have H := HC8.out
     clear HC8
     by_cases c9 : a0_6 < 0
     ·rw [if_pos c9] at H
      have c9b0 : decide (a0_6 < 0) = true := decide_eq_true c9
      clear c9
      (first | rw [c9b0] | (simp only [i64_w, i32_w]; rw [c9b0]) | skip)
      have H' := Aside0.mk H
      clear H
      obtain ⟨hcz10_0, hcz10_1, hcz10_2, hcz10_3, hcz10_4, hcz10_5, hcz10_6, hcz10_7, hcz10_8, hcz10_9, hcz10_10, hcz10_11, hcz10_12⟩ := cellsK13 BK316.out
      obtain ⟨hfz10_0, hfz10_1, hfz10_2, hfz10_3, hfz10_4, hfz10_5, hfz10_6, hfz10_7, hfz10_8, hfz10_9, hfz10_10, hfz10_11, hfz10_12⟩ := frozK13 BK316.out
      go_wp2
      go_meet
      case rel => exact ⟨_, (true), (by first | rfl | (simp; done) | (simp [*]; done) | (have := TNA.out; unfold wrap64; congr 1; omega) | (unfold wrap64; omega)), H', ⟨by have := HJ1.out; first | omega | exact Nat.le_refl _⟩, ⟨by (with_reducible repeat (first | refine blk_drewN ?_ _ | refine blk_drew ?_ | refine blk_alloc ?_ _)); exact BK316.out⟩, ⟨by repeat (first | (with_reducible first | exact HB.out | apply below_alloc | apply pw_below_drewN | apply below_drew1 | refine below_set ?_ GE316.out) | exact HB.out)⟩⟩
     ·rw [if_neg c9] at H
      have c9b0 : decide (a0_6 < 0) = false := decide_eq_false c9
      clear c9
      (first | rw [c9b0] | (simp only [i64_w, i32_w]; rw [c9b0]) | skip)
      have H' := Aside0.mk H
      clear H
      obtain ⟨hcz11_0, hcz11_1, hcz11_2, hcz11_3, hcz11_4, hcz11_5, hcz11_6, hcz11_7, hcz11_8, hcz11_9, hcz11_10, hcz11_11, hcz11_12⟩ := cellsK13 BK316.out
      obtain ⟨hfz11_0, hfz11_1, hfz11_2, hfz11_3, hfz11_4, hfz11_5, hfz11_6, hfz11_7, hfz11_8, hfz11_9, hfz11_10, hfz11_11, hfz11_12⟩ := frozK13 BK316.out
      go_wp2
      go_meet
      case rel => exact ⟨_, (decide (a0_6 > 500)), (by first | rfl | (simp; done) | (simp [*]; done) | (have := TNA.out; unfold wrap64; congr 1; omega) | (unfold wrap64; omega)), H', ⟨by have := HJ1.out; first | omega | exact Nat.le_refl _⟩, ⟨by (with_reducible repeat (first | refine blk_drewN ?_ _ | refine blk_drew ?_ | refine blk_alloc ?_ _)); exact BK316.out⟩, ⟨by repeat (first | (with_reducible first | exact HB.out | apply below_alloc | apply pw_below_drewN | apply below_drew1 | refine below_set ?_ GE316.out) | exact HB.out)⟩⟩
    case rest =>
     clear HC8
     try clear p2
     try clear c4
     try clear c4b0
     try clear c6
     try clear c7
     try clear c9
     try clear c9b0
     try clear hcz10_0
     try clear hcz10_1
     try clear hcz10_10
     try clear hcz10_11
     try clear hcz10_12
     try clear hcz10_2
     try clear hcz10_3
     try clear hcz10_4
     try clear hcz10_5
     try clear hcz10_6
     try clear hcz10_7
     try clear hcz10_8
     try clear hcz10_9
     try clear hcz11_0
     try clear hcz11_1
     try clear hcz11_10
     try clear hcz11_11
     try clear hcz11_12
     try clear hcz11_2
     try clear hcz11_3
     try clear hcz11_4
     try clear hcz11_5
     try clear hcz11_6
     try clear hcz11_7
     try clear hcz11_8
     try clear hcz11_9
     try clear hcz5_0
     try clear hcz5_1
     try clear hcz5_10
     try clear hcz5_11
     try clear hcz5_12
     try clear hcz5_2
     try clear hcz5_3
     try clear hcz5_4
     try clear hcz5_5
     try clear hcz5_6
     try clear hcz5_7
     try clear hcz5_8
     try clear hcz5_9
     try clear hcz6_0
     try clear hcz6_1
     try clear hcz6_10
     try clear hcz6_11
     try clear hcz6_12
     try clear hcz6_2
     try clear hcz6_3
     try clear hcz6_4
     try clear hcz6_5
     try clear hcz6_6
     try clear hcz6_7
     try clear hcz6_8
     try clear hcz6_9
     try clear hfz10_0
     try clear hfz10_1
     try clear hfz10_10
     try clear hfz10_11
     try clear hfz10_12
     try clear hfz10_2
     try clear hfz10_3
     try clear hfz10_4
     try clear hfz10_5
     try clear hfz10_6
     try clear hfz10_7
     try clear hfz10_8
     try clear hfz10_9
     try clear hfz11_0
     try clear hfz11_1
     try clear hfz11_10
     try clear hfz11_11
     try clear hfz11_12
     try clear hfz11_2
     try clear hfz11_3
     try clear hfz11_4
     try clear hfz11_5
     try clear hfz11_6
     try clear hfz11_7
     try clear hfz11_8
     try clear hfz11_9
     try clear hfz5_0
     try clear hfz5_1
     try clear hfz5_10
     try clear hfz5_11
     try clear hfz5_12
     try clear hfz5_2
     try clear hfz5_3
     try clear hfz5_4
     try clear hfz5_5
     try clear hfz5_6
     try clear hfz5_7
     try clear hfz5_8
     try clear hfz5_9
     try clear hfz6_0
     try clear hfz6_1
     try clear hfz6_10
     try clear hfz6_11
     try clear hfz6_12
     try clear hfz6_2
     try clear hfz6_3
     try clear hfz6_4
     try clear hfz6_5
     try clear hfz6_6
     try clear hfz6_7
     try clear hfz6_8
     try clear hfz6_9
     try clear p2
     obtain ⟨kq, x12_7, rfl, HA, HJ7, BK316, HB⟩ := hcut
     cases kq with
     | zero => exact absurd HA.out (by simp [drumlineref5_out.j1])
     | succ kj7 =>
      have H := HA.out
      clear HA
      simp only [drumlineref5_out.j1] at H
      by_cases c12 : x12_7 = true
      ·subst c12
       have H1 : (some 2) = some r := by rw [if_pos rfl] at H; exact H
       clear H
       have H := H1
       clear H1
       obtain rfl := Option.some.inj H
       go_wp2
       go_ret
       exact ⟨by first | rfl | (simp [errW_none, errW_some] <;> rfl) | (simp [*, errW_none, errW_some] <;> rfl), by repeat (first | (with_reducible first | exact HB.out | apply below_alloc | apply pw_below_drewN | apply below_drew1 | refine below_set ?_ GE316.out) | exact HB.out)⟩
      ·replace c12 := Bool.eq_false_iff.mpr c12
       subst c12
       have H1 : (if a0_7 < 0 then (drumlineref5_out.j2 kj7 true l0_0 l0_1 a0_2 a0_3 a0_4 a0_5 a0_6 a0_7 a0_8 a0_9 a0_10 a0_11 a0_12) else (drumlineref5_out.j2 kj7 (decide (a0_7 > 400000)) l0_0 l0_1 a0_2 a0_3 a0_4 a0_5 a0_6 a0_7 a0_8 a0_9 a0_10 a0_11 a0_12)) = some r := by rw [if_neg (show ¬ (false = true) by decide)] at H; exact H
       clear H
       have H := H1
       clear H1
       have HC13 := Aside0.mk H
       clear H
       go_upto_region 5 with (fail)
       go_cut [21] (fun v21 wc => ∃ (kq : Nat) (x21_12 : Bool), v21 = .bool x21_12 ∧ Aside0 (drumlineref5_out.j2 kq x21_12 l0_0 l0_1 a0_2 a0_3 a0_4 a0_5 a0_6 a0_7 a0_8 a0_9 a0_10 a0_11 a0_12 = some r) ∧ Aside0 (kq ≤ kj7) ∧ Aside0 (wc.heap[gb316]? = some (.cells #[(.slice A0_0 l0_0.length c0_0), (.slice A0_1 l0_1.length c0_1), .int .i64 a0_2, .int .i64 a0_3, .int .i64 a0_4, .int .i64 a0_5, .int .i64 a0_6, .int .i64 a0_7, .int .i64 a0_8, .int .i64 a0_9, .int .i64 a0_10, .int .i64 a0_11, .int .i64 a0_12] 25 (0, 0))) ∧ Aside0 (Below w.heap.size w wc))
       case first =>
        have H := HC13.out
        clear HC13
        by_cases c14 : a0_7 < 0
        ·rw [if_pos c14] at H
         have c14b0 : decide (a0_7 < 0) = true := decide_eq_true c14
         clear c14
         (first | rw [c14b0] | (simp only [i64_w, i32_w]; rw [c14b0]) | skip)
         have H' := Aside0.mk H
         clear H
         obtain ⟨hcz15_0, hcz15_1, hcz15_2, hcz15_3, hcz15_4, hcz15_5, hcz15_6, hcz15_7, hcz15_8, hcz15_9, hcz15_10, hcz15_11, hcz15_12⟩ := cellsK13 BK316.out
         obtain ⟨hfz15_0, hfz15_1, hfz15_2, hfz15_3, hfz15_4, hfz15_5, hfz15_6, hfz15_7, hfz15_8, hfz15_9, hfz15_10, hfz15_11, hfz15_12⟩ := frozK13 BK316.out
         go_wp2
         go_meet
         case rel => exact ⟨_, (true), (by first | rfl | (simp; done) | (simp [*]; done) | (have := TNA.out; unfold wrap64; congr 1; omega) | (unfold wrap64; omega)), H', ⟨by have := HJ1.out; have := HJ7.out; first | omega | exact Nat.le_refl _⟩, ⟨by (with_reducible repeat (first | refine blk_drewN ?_ _ | refine blk_drew ?_ | refine blk_alloc ?_ _)); exact BK316.out⟩, ⟨by repeat (first | (with_reducible first | exact HB.out | apply below_alloc | apply pw_below_drewN | apply below_drew1 | refine below_set ?_ GE316.out) | exact HB.out)⟩⟩
        ·rw [if_neg c14] at H
         have c14b0 : decide (a0_7 < 0) = false := decide_eq_false c14
         clear c14
         (first | rw [c14b0] | (simp only [i64_w, i32_w]; rw [c14b0]) | skip)
         have H' := Aside0.mk H
         clear H
         obtain ⟨hcz16_0, hcz16_1, hcz16_2, hcz16_3, hcz16_4, hcz16_5, hcz16_6, hcz16_7, hcz16_8, hcz16_9, hcz16_10, hcz16_11, hcz16_12⟩ := cellsK13 BK316.out
         obtain ⟨hfz16_0, hfz16_1, hfz16_2, hfz16_3, hfz16_4, hfz16_5, hfz16_6, hfz16_7, hfz16_8, hfz16_9, hfz16_10, hfz16_11, hfz16_12⟩ := frozK13 BK316.out
         go_wp2
         go_meet
         case rel => exact ⟨_, (decide (a0_7 > 400000)), (by first | rfl | (simp; done) | (simp [*]; done) | (have := TNA.out; unfold wrap64; congr 1; omega) | (unfold wrap64; omega)), H', ⟨by have := HJ1.out; have := HJ7.out; first | omega | exact Nat.le_refl _⟩, ⟨by (with_reducible repeat (first | refine blk_drewN ?_ _ | refine blk_drew ?_ | refine blk_alloc ?_ _)); exact BK316.out⟩, ⟨by repeat (first | (with_reducible first | exact HB.out | apply below_alloc | apply pw_below_drewN | apply below_drew1 | refine below_set ?_ GE316.out) | exact HB.out)⟩⟩
       case rest =>
        clear HC13
        try clear c1
        try clear p2
        try clear c4
        try clear c4b0
        try clear c6
        try clear c7
        try clear c9
        try clear c9b0
        try clear c12
        try clear c14
        try clear c14b0
        try clear hcz10_0
        try clear hcz10_1
        try clear hcz10_10
        try clear hcz10_11
        try clear hcz10_12
        try clear hcz10_2
        try clear hcz10_3
        try clear hcz10_4
        try clear hcz10_5
        try clear hcz10_6
        try clear hcz10_7
        try clear hcz10_8
        try clear hcz10_9
        try clear hcz11_0
        try clear hcz11_1
        try clear hcz11_10
        try clear hcz11_11
        try clear hcz11_12
        try clear hcz11_2
        try clear hcz11_3
        try clear hcz11_4
        try clear hcz11_5
        try clear hcz11_6
        try clear hcz11_7
        try clear hcz11_8
        try clear hcz11_9
        try clear hcz15_0
        try clear hcz15_1
        try clear hcz15_10
        try clear hcz15_11
        try clear hcz15_12
        try clear hcz15_2
        try clear hcz15_3
        try clear hcz15_4
        try clear hcz15_5
        try clear hcz15_6
        try clear hcz15_7
        try clear hcz15_8
        try clear hcz15_9
        try clear hcz16_0
        try clear hcz16_1
        try clear hcz16_10
        try clear hcz16_11
        try clear hcz16_12
        try clear hcz16_2
        try clear hcz16_3
        try clear hcz16_4
        try clear hcz16_5
        try clear hcz16_6
        try clear hcz16_7
        try clear hcz16_8
        try clear hcz16_9
        try clear hcz5_0
        try clear hcz5_1
        try clear hcz5_10
        try clear hcz5_11
        try clear hcz5_12
        try clear hcz5_2
        try clear hcz5_3
        try clear hcz5_4
        try clear hcz5_5
        try clear hcz5_6
        try clear hcz5_7
        try clear hcz5_8
        try clear hcz5_9
        try clear hcz6_0
        try clear hcz6_1
        try clear hcz6_10
        try clear hcz6_11
        try clear hcz6_12
        try clear hcz6_2
        try clear hcz6_3
        try clear hcz6_4
        try clear hcz6_5
        try clear hcz6_6
        try clear hcz6_7
        try clear hcz6_8
        try clear hcz6_9
        try clear hfz10_0
        try clear hfz10_1
        try clear hfz10_10
        try clear hfz10_11
        try clear hfz10_12
        try clear hfz10_2
        try clear hfz10_3
        try clear hfz10_4
        try clear hfz10_5
        try clear hfz10_6
        try clear hfz10_7
        try clear hfz10_8
        try clear hfz10_9
        try clear hfz11_0
        try clear hfz11_1
        try clear hfz11_10
        try clear hfz11_11
        try clear hfz11_12
        try clear hfz11_2
        try clear hfz11_3
        try clear hfz11_4
        try clear hfz11_5
        try clear hfz11_6
        try clear hfz11_7
        try clear hfz11_8
        try clear hfz11_9
        try clear hfz15_0
        try clear hfz15_1
        try clear hfz15_10
        try clear hfz15_11
        try clear hfz15_12
        try clear hfz15_2
        try clear hfz15_3
        try clear hfz15_4
        try clear hfz15_5
        try clear hfz15_6
        try clear hfz15_7
        try clear hfz15_8
        try clear hfz15_9
        try clear hfz16_0
        try clear hfz16_1
        try clear hfz16_10
        try clear hfz16_11
        try clear hfz16_12
        try clear hfz16_2
        try clear hfz16_3
        try clear hfz16_4
        try clear hfz16_5
        try clear hfz16_6
        try clear hfz16_7
        try clear hfz16_8
        try clear hfz16_9
        try clear hfz5_0
        try clear hfz5_1
        try clear hfz5_10
        try clear hfz5_11
        try clear hfz5_12
        try clear hfz5_2
        try clear hfz5_3
        try clear hfz5_4
        try clear hfz5_5
        try clear hfz5_6
        try clear hfz5_7
        try clear hfz5_8
        try clear hfz5_9
        try clear hfz6_0
        try clear hfz6_1
        try clear hfz6_10
        try clear hfz6_11
        try clear hfz6_12
        try clear hfz6_2
        try clear hfz6_3
        try clear hfz6_4
        try clear hfz6_5
        try clear hfz6_6
        try clear hfz6_7
        try clear hfz6_8
        try clear hfz6_9
        try clear p2
        obtain ⟨kq, x21_12, rfl, HA, HJ12, BK316, HB⟩ := hcut
        cases kq with
        | zero => exact absurd HA.out (by simp [drumlineref5_out.j2])
        | succ kj12 =>
         have H := HA.out
         clear HA
         simp only [drumlineref5_out.j2] at H
         by_cases c17 : x21_12 = true
         ·subst c17
          have H1 : (some 3) = some r := by rw [if_pos rfl] at H; exact H
          clear H
          have H := H1
          clear H1
          obtain rfl := Option.some.inj H
          go_wp2
          go_ret
          exact ⟨by first | rfl | (simp [errW_none, errW_some] <;> rfl) | (simp [*, errW_none, errW_some] <;> rfl), by repeat (first | (with_reducible first | exact HB.out | apply below_alloc | apply pw_below_drewN | apply below_drew1 | refine below_set ?_ GE316.out) | exact HB.out)⟩
         ·replace c17 := Bool.eq_false_iff.mpr c17
          subst c17
          have H1 : (if a0_8 < 1 then (drumlineref5_out.j3 kj12 true l0_0 l0_1 a0_2 a0_3 a0_4 a0_5 a0_6 a0_7 a0_8 a0_9 a0_10 a0_11 a0_12) else (drumlineref5_out.j3 kj12 (decide (a0_8 > 200)) l0_0 l0_1 a0_2 a0_3 a0_4 a0_5 a0_6 a0_7 a0_8 a0_9 a0_10 a0_11 a0_12)) = some r := by rw [if_neg (show ¬ (false = true) by decide)] at H; exact H
          clear H
          have H := H1
          clear H1
          have HC18 := Aside0.mk H
          clear H
          go_upto_region 7 with (fail)
          go_cut [30] (fun v30 wc => ∃ (kq : Nat) (x30_17 : Bool), v30 = .bool x30_17 ∧ Aside0 (drumlineref5_out.j3 kq x30_17 l0_0 l0_1 a0_2 a0_3 a0_4 a0_5 a0_6 a0_7 a0_8 a0_9 a0_10 a0_11 a0_12 = some r) ∧ Aside0 (kq ≤ kj12) ∧ Aside0 (wc.heap[gb316]? = some (.cells #[(.slice A0_0 l0_0.length c0_0), (.slice A0_1 l0_1.length c0_1), .int .i64 a0_2, .int .i64 a0_3, .int .i64 a0_4, .int .i64 a0_5, .int .i64 a0_6, .int .i64 a0_7, .int .i64 a0_8, .int .i64 a0_9, .int .i64 a0_10, .int .i64 a0_11, .int .i64 a0_12] 25 (0, 0))) ∧ Aside0 (Below w.heap.size w wc))
          case first =>
           have H := HC18.out
           clear HC18
           by_cases c19 : a0_8 < 1
           ·rw [if_pos c19] at H
            have c19b0 : decide (a0_8 < 1) = true := decide_eq_true c19
            clear c19
            (first | rw [c19b0] | (simp only [i64_w, i32_w]; rw [c19b0]) | skip)
            have H' := Aside0.mk H
            clear H
            obtain ⟨hcz20_0, hcz20_1, hcz20_2, hcz20_3, hcz20_4, hcz20_5, hcz20_6, hcz20_7, hcz20_8, hcz20_9, hcz20_10, hcz20_11, hcz20_12⟩ := cellsK13 BK316.out
            obtain ⟨hfz20_0, hfz20_1, hfz20_2, hfz20_3, hfz20_4, hfz20_5, hfz20_6, hfz20_7, hfz20_8, hfz20_9, hfz20_10, hfz20_11, hfz20_12⟩ := frozK13 BK316.out
            go_wp2
            go_meet
            case rel => exact ⟨_, (true), (by first | rfl | (simp; done) | (simp [*]; done) | (have := TNA.out; unfold wrap64; congr 1; omega) | (unfold wrap64; omega)), H', ⟨by have := HJ1.out; have := HJ7.out; have := HJ12.out; first | omega | exact Nat.le_refl _⟩, ⟨by (with_reducible repeat (first | refine blk_drewN ?_ _ | refine blk_drew ?_ | refine blk_alloc ?_ _)); exact BK316.out⟩, ⟨by repeat (first | (with_reducible first | exact HB.out | apply below_alloc | apply pw_below_drewN | apply below_drew1 | refine below_set ?_ GE316.out) | exact HB.out)⟩⟩
           ·rw [if_neg c19] at H
            have c19b0 : decide (a0_8 < 1) = false := decide_eq_false c19
            clear c19
            (first | rw [c19b0] | (simp only [i64_w, i32_w]; rw [c19b0]) | skip)
            have H' := Aside0.mk H
            clear H
            obtain ⟨hcz21_0, hcz21_1, hcz21_2, hcz21_3, hcz21_4, hcz21_5, hcz21_6, hcz21_7, hcz21_8, hcz21_9, hcz21_10, hcz21_11, hcz21_12⟩ := cellsK13 BK316.out
            obtain ⟨hfz21_0, hfz21_1, hfz21_2, hfz21_3, hfz21_4, hfz21_5, hfz21_6, hfz21_7, hfz21_8, hfz21_9, hfz21_10, hfz21_11, hfz21_12⟩ := frozK13 BK316.out
            go_wp2
            go_meet
            case rel => exact ⟨_, (decide (a0_8 > 200)), (by first | rfl | (simp; done) | (simp [*]; done) | (have := TNA.out; unfold wrap64; congr 1; omega) | (unfold wrap64; omega)), H', ⟨by have := HJ1.out; have := HJ7.out; have := HJ12.out; first | omega | exact Nat.le_refl _⟩, ⟨by (with_reducible repeat (first | refine blk_drewN ?_ _ | refine blk_drew ?_ | refine blk_alloc ?_ _)); exact BK316.out⟩, ⟨by repeat (first | (with_reducible first | exact HB.out | apply below_alloc | apply pw_below_drewN | apply below_drew1 | refine below_set ?_ GE316.out) | exact HB.out)⟩⟩
          case rest =>
           clear HC18
           try clear c1
           try clear p2
           try clear c4
           try clear c4b0
           try clear c6
           try clear c7
           try clear c9
           try clear c9b0
           try clear c12
           try clear c14
           try clear c14b0
           try clear c17
           try clear c19
           try clear c19b0
           try clear hcz10_0
           try clear hcz10_1
           try clear hcz10_10
           try clear hcz10_11
           try clear hcz10_12
           try clear hcz10_2
           try clear hcz10_3
           try clear hcz10_4
           try clear hcz10_5
           try clear hcz10_6
           try clear hcz10_7
           try clear hcz10_8
           try clear hcz10_9
           try clear hcz11_0
           try clear hcz11_1
           try clear hcz11_10
           try clear hcz11_11
           try clear hcz11_12
           try clear hcz11_2
           try clear hcz11_3
           try clear hcz11_4
           try clear hcz11_5
           try clear hcz11_6
           try clear hcz11_7
           try clear hcz11_8
           try clear hcz11_9
           try clear hcz15_0
           try clear hcz15_1
           try clear hcz15_10
           try clear hcz15_11
           try clear hcz15_12
           try clear hcz15_2
           try clear hcz15_3
           try clear hcz15_4
           try clear hcz15_5
           try clear hcz15_6
           try clear hcz15_7
           try clear hcz15_8
           try clear hcz15_9
           try clear hcz16_0
           try clear hcz16_1
           try clear hcz16_10
           try clear hcz16_11
           try clear hcz16_12
           try clear hcz16_2
           try clear hcz16_3
           try clear hcz16_4
           try clear hcz16_5
           try clear hcz16_6
           try clear hcz16_7
           try clear hcz16_8
           try clear hcz16_9
           try clear hcz20_0
           try clear hcz20_1
           try clear hcz20_10
           try clear hcz20_11
           try clear hcz20_12
           try clear hcz20_2
           try clear hcz20_3
           try clear hcz20_4
           try clear hcz20_5
           try clear hcz20_6
           try clear hcz20_7
           try clear hcz20_8
           try clear hcz20_9
           try clear hcz21_0
           try clear hcz21_1
           try clear hcz21_10
           try clear hcz21_11
           try clear hcz21_12
           try clear hcz21_2
           try clear hcz21_3
           try clear hcz21_4
           try clear hcz21_5
           try clear hcz21_6
           try clear hcz21_7
           try clear hcz21_8
           try clear hcz21_9
           try clear hcz5_0
           try clear hcz5_1
           try clear hcz5_10
           try clear hcz5_11
           try clear hcz5_12
           try clear hcz5_2
           try clear hcz5_3
           try clear hcz5_4
           try clear hcz5_5
           try clear hcz5_6
           try clear hcz5_7
           try clear hcz5_8
           try clear hcz5_9
           try clear hcz6_0
           try clear hcz6_1
           try clear hcz6_10
           try clear hcz6_11
           try clear hcz6_12
           try clear hcz6_2
           try clear hcz6_3
           try clear hcz6_4
           try clear hcz6_5
           try clear hcz6_6
           try clear hcz6_7
           try clear hcz6_8
           try clear hcz6_9
           try clear hfz10_0
           try clear hfz10_1
           try clear hfz10_10
           try clear hfz10_11
           try clear hfz10_12
           try clear hfz10_2
           try clear hfz10_3
           try clear hfz10_4
           try clear hfz10_5
           try clear hfz10_6
           try clear hfz10_7
           try clear hfz10_8
           try clear hfz10_9
           try clear hfz11_0
           try clear hfz11_1
           try clear hfz11_10
           try clear hfz11_11
           try clear hfz11_12
           try clear hfz11_2
           try clear hfz11_3
           try clear hfz11_4
           try clear hfz11_5
           try clear hfz11_6
           try clear hfz11_7
           try clear hfz11_8
           try clear hfz11_9
           try clear hfz15_0
           try clear hfz15_1
           try clear hfz15_10
           try clear hfz15_11
           try clear hfz15_12
           try clear hfz15_2
           try clear hfz15_3
           try clear hfz15_4
           try clear hfz15_5
           try clear hfz15_6
           try clear hfz15_7
           try clear hfz15_8
           try clear hfz15_9
           try clear hfz16_0
           try clear hfz16_1
           try clear hfz16_10
           try clear hfz16_11
           try clear hfz16_12
           try clear hfz16_2
           try clear hfz16_3
           try clear hfz16_4
           try clear hfz16_5
           try clear hfz16_6
           try clear hfz16_7
           try clear hfz16_8
           try clear hfz16_9
           try clear hfz20_0
           try clear hfz20_1
           try clear hfz20_10
           try clear hfz20_11
           try clear hfz20_12
           try clear hfz20_2
           try clear hfz20_3
           try clear hfz20_4
           try clear hfz20_5
           try clear hfz20_6
           try clear hfz20_7
           try clear hfz20_8
           try clear hfz20_9
           try clear hfz21_0
           try clear hfz21_1
           try clear hfz21_10
           try clear hfz21_11
           try clear hfz21_12
           try clear hfz21_2
           try clear hfz21_3
           try clear hfz21_4
           try clear hfz21_5
           try clear hfz21_6
           try clear hfz21_7
           try clear hfz21_8
           try clear hfz21_9
           try clear hfz5_0
           try clear hfz5_1
           try clear hfz5_10
           try clear hfz5_11
           try clear hfz5_12
           try clear hfz5_2
           try clear hfz5_3
           try clear hfz5_4
           try clear hfz5_5
           try clear hfz5_6
           try clear hfz5_7
           try clear hfz5_8
           try clear hfz5_9
           try clear hfz6_0
           try clear hfz6_1
           try clear hfz6_10
           try clear hfz6_11
           try clear hfz6_12
           try clear hfz6_2
           try clear hfz6_3
           try clear hfz6_4
           try clear hfz6_5
           try clear hfz6_6
           try clear hfz6_7
           try clear hfz6_8
           try clear hfz6_9
           try clear p2
           obtain ⟨kq, x30_17, rfl, HA, HJ17, BK316, HB⟩ := hcut
           cases kq with
           | zero => exact absurd HA.out (by simp [drumlineref5_out.j3])
           | succ kj17 =>
            have H := HA.out
            clear HA
            simp only [drumlineref5_out.j3] at H
            by_cases c22 : x30_17 = true
            ·subst c22
             have H1 : (some 4) = some r := by rw [if_pos rfl] at H; exact H
             clear H
             have H := H1
             clear H1
             obtain rfl := Option.some.inj H
             go_wp2
             go_ret
             exact ⟨by first | rfl | (simp [errW_none, errW_some] <;> rfl) | (simp [*, errW_none, errW_some] <;> rfl), by repeat (first | (with_reducible first | exact HB.out | apply below_alloc | apply pw_below_drewN | apply below_drew1 | refine below_set ?_ GE316.out) | exact HB.out)⟩
            ·replace c22 := Bool.eq_false_iff.mpr c22
             subst c22
             have H1 : (if a0_9 < 0 then (some 5) else (if a0_9 > 20 then (some 5) else (some 0))) = some r := by rw [if_neg (show ¬ (false = true) by decide)] at H; exact H
             clear H
             have H := H1
             clear H1
             by_cases c23 : a0_9 < 0
             ·rw [if_pos c23] at H
              have c23b0 : decide (a0_9 < 0) = true := decide_eq_true c23
              clear c23
              obtain rfl := Option.some.inj H
              obtain ⟨hcz24_0, hcz24_1, hcz24_2, hcz24_3, hcz24_4, hcz24_5, hcz24_6, hcz24_7, hcz24_8, hcz24_9, hcz24_10, hcz24_11, hcz24_12⟩ := cellsK13 BK316.out
              obtain ⟨hfz24_0, hfz24_1, hfz24_2, hfz24_3, hfz24_4, hfz24_5, hfz24_6, hfz24_7, hfz24_8, hfz24_9, hfz24_10, hfz24_11, hfz24_12⟩ := frozK13 BK316.out
              go_wp2
              go_ret
              exact ⟨by first | rfl | (simp [errW_none, errW_some] <;> rfl) | (simp [*, errW_none, errW_some] <;> rfl), by repeat (first | (with_reducible first | exact HB.out | apply below_alloc | apply pw_below_drewN | apply below_drew1 | refine below_set ?_ GE316.out) | exact HB.out)⟩
             ·rw [if_neg c23] at H
              have c23b0 : decide (a0_9 < 0) = false := decide_eq_false c23
              clear c23
              by_cases c25 : a0_9 > 20
              ·rw [if_pos c25] at H
               have c25b0 : decide (20 < a0_9) = true := decide_eq_true c25
               clear c25
               obtain rfl := Option.some.inj H
               obtain ⟨hcz26_0, hcz26_1, hcz26_2, hcz26_3, hcz26_4, hcz26_5, hcz26_6, hcz26_7, hcz26_8, hcz26_9, hcz26_10, hcz26_11, hcz26_12⟩ := cellsK13 BK316.out
               obtain ⟨hfz26_0, hfz26_1, hfz26_2, hfz26_3, hfz26_4, hfz26_5, hfz26_6, hfz26_7, hfz26_8, hfz26_9, hfz26_10, hfz26_11, hfz26_12⟩ := frozK13 BK316.out
               go_wp2
               go_ret
               exact ⟨by first | rfl | (simp [errW_none, errW_some] <;> rfl) | (simp [*, errW_none, errW_some] <;> rfl), by repeat (first | (with_reducible first | exact HB.out | apply below_alloc | apply pw_below_drewN | apply below_drew1 | refine below_set ?_ GE316.out) | exact HB.out)⟩
              ·rw [if_neg c25] at H
               have c25b0 : decide (20 < a0_9) = false := decide_eq_false c25
               clear c25
               obtain rfl := Option.some.inj H
               obtain ⟨hcz27_0, hcz27_1, hcz27_2, hcz27_3, hcz27_4, hcz27_5, hcz27_6, hcz27_7, hcz27_8, hcz27_9, hcz27_10, hcz27_11, hcz27_12⟩ := cellsK13 BK316.out
               obtain ⟨hfz27_0, hfz27_1, hfz27_2, hfz27_3, hfz27_4, hfz27_5, hfz27_6, hfz27_7, hfz27_8, hfz27_9, hfz27_10, hfz27_11, hfz27_12⟩ := frozK13 BK316.out
               go_wp2
               go_ret
               exact ⟨by first | rfl | (simp [errW_none, errW_some] <;> rfl) | (simp [*, errW_none, errW_some] <;> rfl), by repeat (first | (with_reducible first | exact HB.out | apply below_alloc | apply pw_below_drewN | apply below_drew1 | refine below_set ?_ GE316.out) | exact HB.out)⟩


/-! ### drumlineref5_ranged: function 55 -/
def drumlineref5_ranged.f (k : Nat) (l0_0 : List (S60)) (l0_1 : List (S37)) (a0_2 : Int) (a0_3 : Int) (a0_4 : Int) (a0_5 : Int) (a0_6 : Int) (a0_7 : Int) (a0_8 : Int) (a0_9 : Int) (a0_10 : Int) (a0_11 : Int) (a0_12 : Int) : Option (Bool) := (drumlineref5_Good.f l0_0 l0_1 a0_2 a0_3 a0_4 a0_5 a0_6 a0_7 a0_8 a0_9 a0_10 a0_11 a0_12 0).bind fun t318 => (if t318 = true then ((drumlineref5_out.f k l0_0 l0_1 a0_2 a0_3 a0_4 a0_5 a0_6 a0_7 a0_8 a0_9 a0_10 a0_11 a0_12).bind fun t319 => (some (t319 == 0))) else (some false))
theorem drumlineref5_ranged.mono : ∀ a0 a1 a2 a3 a4 a5 a6 a7 a8 a9 a10 a11 a12 k, LeO (drumlineref5_ranged.f k a0 a1 a2 a3 a4 a5 a6 a7 a8 a9 a10 a11 a12) (drumlineref5_ranged.f (k + 1) a0 a1 a2 a3 a4 a5 a6 a7 a8 a9 a10 a11 a12) := by
 intro a0 a1 a2 a3 a4 a5 a6 a7 a8 a9 a10 a11 a12 k
 unfold drumlineref5_ranged.f
 repeat' first
   | (with_reducible exact drumlineref5_out.mono _ _ _ _ _ _ _ _ _ _ _ _ _ _)
   | (with_reducible exact LeO.refl _)
   | (with_reducible exact LeO.none _)
   | (with_reducible refine LeO.ite ?_ ?_)
   | (with_reducible refine LeO.bind ?_ (fun _ => ?_))
   | exact drumlineref5_out.mono _ _ _ _ _ _ _ _ _ _ _ _ _ _
   | exact LeO.none _
   | refine LeO.ite ?_ ?_
   | refine LeO.bind ?_ (fun _ => ?_)
set_option maxHeartbeats 8000000 in
set_option maxRecDepth 100000 in
theorem drumlineref5_ranged.calls (k : Nat) (A0_0 : Option Addr) (c0_0 : Nat) (l0_0 : List (S60)) (A0_1 : Option Addr) (c0_1 : Nat) (l0_1 : List (S37)) (a0_2 : Int) (a0_3 : Int) (a0_4 : Int) (a0_5 : Int) (a0_6 : Int) (a0_7 : Int) (a0_8 : Int) (a0_9 : Int) (a0_10 : Int) (a0_11 : Int) (a0_12 : Int) (r : Bool) (w : World) (hr0_0 : Kd.C k60 w A0_0 l0_0.length l0_0) (hc0_0 : l0_0.length ≤ c0_0) (hr0_1 : Kd.C k37 w A0_1 l0_1.length l0_1) (hc0_1 : l0_1.length ≤ c0_1) (h : drumlineref5_ranged.f k l0_0 l0_1 a0_2 a0_3 a0_4 a0_5 a0_6 a0_7 a0_8 a0_9 a0_10 a0_11 a0_12 = some r) :
  Calls Tryd.prog 55 #[.agg #[.slice A0_0 l0_0.length c0_0, .slice A0_1 l0_1.length c0_1, .int .i64 a0_2, .int .i64 a0_3, .int .i64 a0_4, .int .i64 a0_5, .int .i64 a0_6, .int .i64 a0_7, .int .i64 a0_8, .int .i64 a0_9, .int .i64 a0_10, .int .i64 a0_11, .int .i64 a0_12]] w fun e w' => e = .returned (.bool r) ∧ Below w.heap.size w w' := by
 have hu25 := Tryd.underlying25
 have HR0_0 := Aside0.mk hr0_0
 have HC0_0 := Aside0.mk hc0_0
 clear hr0_0 hc0_0
 have HR0_1 := Aside0.mk hr0_1
 have HC0_1 := Aside0.mk hc0_1
 clear hr0_1 hc0_1
 have HB := Aside0.mk (Below.refl w.heap.size w)
 have H : ((drumlineref5_Good.f l0_0 l0_1 a0_2 a0_3 a0_4 a0_5 a0_6 a0_7 a0_8 a0_9 a0_10 a0_11 a0_12 0).bind fun t318 => (if t318 = true then ((drumlineref5_out.f k l0_0 l0_1 a0_2 a0_3 a0_4 a0_5 a0_6 a0_7 a0_8 a0_9 a0_10 a0_11 a0_12).bind fun t319 => (some (t319 == 0))) else (some false))) = some r := h
 clear h
 replace H := Option.bind_eq_some_iff.mp H
 obtain ⟨t318, A20, H⟩ := H
 replace H : (if t318 = true then ((drumlineref5_out.f k l0_0 l0_1 a0_2 a0_3 a0_4 a0_5 a0_6 a0_7 a0_8 a0_9 a0_10 a0_11 a0_12).bind fun t319 => (some (t319 == 0))) else (some false)) = some r := H
 have A2 := Aside0.mk A20
 clear A20
 by_cases c3 : t318 = true
 ·subst c3
  have H1 : ((drumlineref5_out.f k l0_0 l0_1 a0_2 a0_3 a0_4 a0_5 a0_6 a0_7 a0_8 a0_9 a0_10 a0_11 a0_12).bind fun t319 => (some (t319 == 0))) = some r := by rw [if_pos rfl] at H; exact H
  clear H
  have H := H1
  clear H1
  replace H := Option.bind_eq_some_iff.mp H
  obtain ⟨t319, A40, H⟩ := H
  replace H : (some (t319 == 0)) = some r := H
  have A4 := Aside0.mk A40
  clear A40
  obtain rfl := Option.some.inj H
  go_enter Tryd.func55, Tryd.ntmps55
  go_wp2_with (first | ((with_reducible refine gate_dst (N := 1) rfl ?_); refine box_event ?hg (N := 1) ?hd (cs := #[.slice A0_0 l0_0.length c0_0, .slice A0_1 l0_1.length c0_1, .int .i64 a0_2, .int .i64 a0_3, .int .i64 a0_4, .int .i64 a0_5, .int .i64 a0_6, .int .i64 a0_7, .int .i64 a0_8, .int .i64 a0_9, .int .i64 a0_10, .int .i64 a0_11, .int .i64 a0_12]) (t := 25) ?hr ?_; (case hd => rfl); (case hg => rfl); (case hr => first | (go_simp; done) | (go_simp; rfl)); intro gb317 hg w5 hbox hb; have n0_ := Aside0.mk (below_step (by repeat (first | (with_reducible first | exact HB.out | apply below_alloc | apply pw_below_drewN | apply below_drew1) | exact HB.out)) hb); have n1_ := Aside0.mk (hbox); have n2_ := Aside0.mk ((by rw [hg]; exact (below_size (by repeat (first | (with_reducible first | exact HB.out | apply below_alloc | apply pw_below_drewN | apply below_drew1) | exact HB.out))) : w.heap.size ≤ gb317)); have n3_ := Aside0.mk ((by rw [hg]; exact (below_size (by repeat (first | (with_reducible first | exact HB.out | apply below_alloc | apply pw_below_drewN | apply below_drew1) | exact HB.out))) : w.heap.size ≤ gb317)); clear HB; have HB := n0_; have BK317 := n1_; have GW317 := n2_; have GE317 := n3_; clear n0_ n1_ n2_ n3_; clear hb hbox hg; obtain ⟨hcz6_0, hcz6_1, hcz6_2, hcz6_3, hcz6_4, hcz6_5, hcz6_6, hcz6_7, hcz6_8, hcz6_9, hcz6_10, hcz6_11, hcz6_12⟩ := cellsK13 BK317.out; obtain ⟨hfz6_0, hfz6_1, hfz6_2, hfz6_3, hfz6_4, hfz6_5, hfz6_6, hfz6_7, hfz6_8, hfz6_9, hfz6_10, hfz6_11, hfz6_12⟩ := frozK13 BK317.out) | ((with_reducible refine gate_callee (f := 33) rfl ?_); refine goesL_ (some 4) rfl rfl Tryd.func33 (by kernel_rfl) rfl #[.agg #[.slice A0_0 l0_0.length c0_0, .slice A0_1 l0_1.length c0_1, .int .i64 a0_2, .int .i64 a0_3, .int .i64 a0_4, .int .i64 a0_5, .int .i64 a0_6, .int .i64 a0_7, .int .i64 a0_8, .int .i64 a0_9, .int .i64 a0_10, .int .i64 a0_11, .int .i64 a0_12], .int .i64 0] rfl (by (try simp only [List.map_toArray, List.map_cons, List.map_nil]); first | done | rfl | (simp only [List.length_drop, List.length_take]; rfl)) ?_; (with_reducible refine (drumlineref5_Good.calls _ _ l0_0 _ _ l0_1 a0_2 a0_3 a0_4 a0_5 a0_6 a0_7 a0_8 a0_9 a0_10 a0_11 a0_12 0 true _ ?side1 ?side2 ?side3 ?side4 A2.out).mono ?_); (case side1 => repeat (first | exact (Kd.C_below HR0_0.out HB.out) | (with_reducible refine Kd.C_alloc ?_ _) | (with_reducible refine Kd.C_drewN ?_ _) | (with_reducible refine Kd.C_drew ?_))); (case side2 => exact HC0_0.out); (case side3 => repeat (first | exact (Kd.C_below HR0_1.out HB.out) | (with_reducible refine Kd.C_alloc ?_ _) | (with_reducible refine Kd.C_drewN ?_ _) | (with_reducible refine Kd.C_drew ?_))); (case side4 => exact HC0_1.out); rintro e w7 ⟨rfl, hb⟩; refine ⟨_, rfl, ?_⟩; have n0_ := Aside0.mk (blk_below (g := gb317) (o := .cells #[.slice A0_0 l0_0.length c0_0, .slice A0_1 l0_1.length c0_1, .int .i64 a0_2, .int .i64 a0_3, .int .i64 a0_4, .int .i64 a0_5, .int .i64 a0_6, .int .i64 a0_7, .int .i64 a0_8, .int .i64 a0_9, .int .i64 a0_10, .int .i64 a0_11, .int .i64 a0_12] 25 (0, 0)) (by (with_reducible repeat (first | refine blk_drewN ?_ _ | refine blk_drew ?_ | refine blk_alloc ?_ _)); exact BK317.out) hb); have n1_ := Aside0.mk (below_step (by repeat (first | (with_reducible first | exact HB.out | apply below_alloc | apply pw_below_drewN | apply below_drew1 | refine below_set ?_ GE317.out) | exact HB.out)) hb); clear BK317; clear HB; have BK317 := n0_; have HB := n1_; clear n0_ n1_; (try clear hb); (try clear hb2); (try clear hk); (try clear hi); obtain ⟨hcz8_0, hcz8_1, hcz8_2, hcz8_3, hcz8_4, hcz8_5, hcz8_6, hcz8_7, hcz8_8, hcz8_9, hcz8_10, hcz8_11, hcz8_12⟩ := cellsK13 BK317.out; obtain ⟨hfz8_0, hfz8_1, hfz8_2, hfz8_3, hfz8_4, hfz8_5, hfz8_6, hfz8_7, hfz8_8, hfz8_9, hfz8_10, hfz8_11, hfz8_12⟩ := frozK13 BK317.out) | (go_at_call 65; (with_reducible refine (drumlineref5_out.calls k _ _ l0_0 _ _ l0_1 a0_2 a0_3 a0_4 a0_5 a0_6 a0_7 a0_8 a0_9 a0_10 a0_11 a0_12 t319 _ ?side1 ?side2 ?side3 ?side4 A4.out).mono ?_); (case side1 => repeat (first | exact (Kd.C_below HR0_0.out HB.out) | (with_reducible refine Kd.C_alloc ?_ _) | (with_reducible refine Kd.C_drewN ?_ _) | (with_reducible refine Kd.C_drew ?_))); (case side2 => exact HC0_0.out); (case side3 => repeat (first | exact (Kd.C_below HR0_1.out HB.out) | (with_reducible refine Kd.C_alloc ?_ _) | (with_reducible refine Kd.C_drewN ?_ _) | (with_reducible refine Kd.C_drew ?_))); (case side4 => exact HC0_1.out); rintro e w9 ⟨rfl, hb⟩; have n0_ := Aside0.mk (blk_below (g := gb317) (o := .cells #[.slice A0_0 l0_0.length c0_0, .slice A0_1 l0_1.length c0_1, .int .i64 a0_2, .int .i64 a0_3, .int .i64 a0_4, .int .i64 a0_5, .int .i64 a0_6, .int .i64 a0_7, .int .i64 a0_8, .int .i64 a0_9, .int .i64 a0_10, .int .i64 a0_11, .int .i64 a0_12] 25 (0, 0)) (by (with_reducible repeat (first | refine blk_drewN ?_ _ | refine blk_drew ?_ | refine blk_alloc ?_ _)); exact BK317.out) hb); have n1_ := Aside0.mk (below_step (by repeat (first | (with_reducible first | exact HB.out | apply below_alloc | apply pw_below_drewN | apply below_drew1 | refine below_set ?_ GE317.out) | exact HB.out)) hb); clear BK317; clear HB; have BK317 := n0_; have HB := n1_; clear n0_ n1_; (try clear hb); (try clear hb2); (try clear hk); (try clear hi)))
  go_ret
  exact ⟨by first | rfl | (simp [errW_none, errW_some] <;> rfl) | (simp [*, errW_none, errW_some] <;> rfl), by repeat (first | (with_reducible first | exact HB.out | apply below_alloc | apply pw_below_drewN | apply below_drew1 | refine below_set ?_ GE317.out) | exact HB.out)⟩
 ·replace c3 := Bool.eq_false_iff.mpr c3
  subst c3
  have H1 : (some false) = some r := by rw [if_neg (show ¬ (false = true) by decide)] at H; exact H
  clear H
  have H := H1
  clear H1
  obtain rfl := Option.some.inj H
  go_enter Tryd.func55, Tryd.ntmps55
  go_wp2_with (first | ((with_reducible refine gate_dst (N := 1) rfl ?_); refine box_event ?hg (N := 1) ?hd (cs := #[.slice A0_0 l0_0.length c0_0, .slice A0_1 l0_1.length c0_1, .int .i64 a0_2, .int .i64 a0_3, .int .i64 a0_4, .int .i64 a0_5, .int .i64 a0_6, .int .i64 a0_7, .int .i64 a0_8, .int .i64 a0_9, .int .i64 a0_10, .int .i64 a0_11, .int .i64 a0_12]) (t := 25) ?hr ?_; (case hd => rfl); (case hg => rfl); (case hr => first | (go_simp; done) | (go_simp; rfl)); intro gb317 hg w10 hbox hb; have n0_ := Aside0.mk (below_step (by repeat (first | (with_reducible first | exact HB.out | apply below_alloc | apply pw_below_drewN | apply below_drew1) | exact HB.out)) hb); have n1_ := Aside0.mk (hbox); have n2_ := Aside0.mk ((by rw [hg]; exact (below_size (by repeat (first | (with_reducible first | exact HB.out | apply below_alloc | apply pw_below_drewN | apply below_drew1) | exact HB.out))) : w.heap.size ≤ gb317)); have n3_ := Aside0.mk ((by rw [hg]; exact (below_size (by repeat (first | (with_reducible first | exact HB.out | apply below_alloc | apply pw_below_drewN | apply below_drew1) | exact HB.out))) : w.heap.size ≤ gb317)); clear HB; have HB := n0_; have BK317 := n1_; have GW317 := n2_; have GE317 := n3_; clear n0_ n1_ n2_ n3_; clear hb hbox hg; obtain ⟨hcz11_0, hcz11_1, hcz11_2, hcz11_3, hcz11_4, hcz11_5, hcz11_6, hcz11_7, hcz11_8, hcz11_9, hcz11_10, hcz11_11, hcz11_12⟩ := cellsK13 BK317.out; obtain ⟨hfz11_0, hfz11_1, hfz11_2, hfz11_3, hfz11_4, hfz11_5, hfz11_6, hfz11_7, hfz11_8, hfz11_9, hfz11_10, hfz11_11, hfz11_12⟩ := frozK13 BK317.out) | ((with_reducible refine gate_callee (f := 33) rfl ?_); refine goesL_ (some 4) rfl rfl Tryd.func33 (by kernel_rfl) rfl #[.agg #[.slice A0_0 l0_0.length c0_0, .slice A0_1 l0_1.length c0_1, .int .i64 a0_2, .int .i64 a0_3, .int .i64 a0_4, .int .i64 a0_5, .int .i64 a0_6, .int .i64 a0_7, .int .i64 a0_8, .int .i64 a0_9, .int .i64 a0_10, .int .i64 a0_11, .int .i64 a0_12], .int .i64 0] rfl (by (try simp only [List.map_toArray, List.map_cons, List.map_nil]); first | done | rfl | (simp only [List.length_drop, List.length_take]; rfl)) ?_; (with_reducible refine (drumlineref5_Good.calls _ _ l0_0 _ _ l0_1 a0_2 a0_3 a0_4 a0_5 a0_6 a0_7 a0_8 a0_9 a0_10 a0_11 a0_12 0 false _ ?side1 ?side2 ?side3 ?side4 A2.out).mono ?_); (case side1 => repeat (first | exact (Kd.C_below HR0_0.out HB.out) | (with_reducible refine Kd.C_alloc ?_ _) | (with_reducible refine Kd.C_drewN ?_ _) | (with_reducible refine Kd.C_drew ?_))); (case side2 => exact HC0_0.out); (case side3 => repeat (first | exact (Kd.C_below HR0_1.out HB.out) | (with_reducible refine Kd.C_alloc ?_ _) | (with_reducible refine Kd.C_drewN ?_ _) | (with_reducible refine Kd.C_drew ?_))); (case side4 => exact HC0_1.out); rintro e w12 ⟨rfl, hb⟩; refine ⟨_, rfl, ?_⟩; have n0_ := Aside0.mk (blk_below (g := gb317) (o := .cells #[.slice A0_0 l0_0.length c0_0, .slice A0_1 l0_1.length c0_1, .int .i64 a0_2, .int .i64 a0_3, .int .i64 a0_4, .int .i64 a0_5, .int .i64 a0_6, .int .i64 a0_7, .int .i64 a0_8, .int .i64 a0_9, .int .i64 a0_10, .int .i64 a0_11, .int .i64 a0_12] 25 (0, 0)) (by (with_reducible repeat (first | refine blk_drewN ?_ _ | refine blk_drew ?_ | refine blk_alloc ?_ _)); exact BK317.out) hb); have n1_ := Aside0.mk (below_step (by repeat (first | (with_reducible first | exact HB.out | apply below_alloc | apply pw_below_drewN | apply below_drew1 | refine below_set ?_ GE317.out) | exact HB.out)) hb); clear BK317; clear HB; have BK317 := n0_; have HB := n1_; clear n0_ n1_; (try clear hb); (try clear hb2); (try clear hk); (try clear hi)))
  go_ret
  exact ⟨by first | rfl | (simp [errW_none, errW_some] <;> rfl) | (simp [*, errW_none, errW_some] <;> rfl), by repeat (first | (with_reducible first | exact HB.out | apply below_alloc | apply pw_below_drewN | apply below_drew1 | refine below_set ?_ GE317.out) | exact HB.out)⟩


/-! ### drumlineref1_Ceil: function 83 -/
def drumlineref1_Ceil.f (a0 : Int) (a1 : Int) : Option (Int × Bool) := if a1 < 1 then (some (0, false)) else (if a1 = 0 then (none) else (if (Int.tmod a0 a1) > 0 then (some (wrap64 ((wrap64 (Int.tdiv a0 a1)) + 1), true)) else (some (wrap64 (Int.tdiv a0 a1), true))))
set_option maxHeartbeats 8000000 in
set_option maxRecDepth 100000 in
theorem drumlineref1_Ceil.calls (a0 : Int) (a1 : Int) (r1 : Int) (r2 : Bool) (w : World) (h : drumlineref1_Ceil.f a0 a1 = some (r1, r2)) :
  Calls Tryd.prog 83 #[.int .i64 a0, .int .i64 a1] w fun e w' => e = .returned (.tuple #[.int .i64 r1, .bool r2]) ∧ Drawn0 w w' := by
 have H : (if a1 < 1 then (some (0, false)) else (if a1 = 0 then (none) else (if (Int.tmod a0 a1) > 0 then (some (wrap64 ((wrap64 (Int.tdiv a0 a1)) + 1), true)) else (some (wrap64 (Int.tdiv a0 a1), true))))) = some (r1, r2) := h
 clear h
 by_cases c3 : a1 < 1
 ·rw [if_pos c3] at H
  have c3b0 : decide (a1 < 1) = true := decide_eq_true c3
  clear c3
  simp only [Option.some.injEq, Prod.mk.injEq] at H
  obtain ⟨rfl, rfl⟩ := H
  go_enter Tryd.func83, Tryd.ntmps83
  go_wp2
  go_ret2
  exact ⟨by first | rfl | (simp; done) | (simp [*]; done), by repeat (first | exact Drawn0.refl _ | apply Drawn0.step)⟩
 ·rw [if_neg c3] at H
  have c3b0 : decide (a1 < 1) = false := decide_eq_false c3
  clear c3
  by_cases c4 : a1 = 0
  ·rw [if_pos c4] at H
   exact absurd H (by simp)
  ·rw [if_neg c4] at H
   have c4b0 : (a1 == 0) = false := beq_eq_false_iff_ne.mpr c4
   have c4b1 : (a1 != 0) = true := bne_iff_ne.mpr c4
   by_cases c5 : (Int.tmod a0 a1) > 0
   ·rw [if_pos c5] at H
    have c5b0 : decide (0 < (Int.tmod a0 a1)) = true := decide_eq_true c5
    clear c5
    simp only [Option.some.injEq, Prod.mk.injEq] at H
    obtain ⟨rfl, rfl⟩ := H
    go_enter Tryd.func83, Tryd.ntmps83
    go_wp2
    go_ret2
    exact ⟨by first | rfl | (simp; done) | (simp [*]; done), by repeat (first | exact Drawn0.refl _ | apply Drawn0.step)⟩
   ·rw [if_neg c5] at H
    have c5b0 : decide (0 < (Int.tmod a0 a1)) = false := decide_eq_false c5
    clear c5
    simp only [Option.some.injEq, Prod.mk.injEq] at H
    obtain ⟨rfl, rfl⟩ := H
    go_enter Tryd.func83, Tryd.ntmps83
    go_wp2
    go_ret2
    exact ⟨by first | rfl | (simp; done) | (simp [*]; done), by repeat (first | exact Drawn0.refl _ | apply Drawn0.step)⟩


/-! ### drumlineref5_up: function 66 -/
def drumlineref5_up.f (a0 : Int) : Option (Int) := (drumlineref1_Ceil.f a0 1000000).bind fun bt320 => (some bt320.1)
set_option maxHeartbeats 8000000 in
set_option maxRecDepth 100000 in
theorem drumlineref5_up.calls (a0 : Int) (r : Int) (w : World) (h : drumlineref5_up.f a0 = some r) :
  Calls Tryd.prog 66 #[.int .i64 a0] w fun e w' => e = .returned (.int .i64 r) ∧ Drawn0 w w' := by
 have H : ((drumlineref1_Ceil.f a0 1000000).bind fun bt320 => (some bt320.1)) = some r := h
 clear h
 replace H := Option.bind_eq_some_iff.mp H
 obtain ⟨⟨t320, t321⟩, A20, H⟩ := H
 replace H : (some t320) = some r := H
 have A2 := Aside0.mk A20
 clear A20
 obtain rfl := Option.some.inj H
 go_enter Tryd.func66, Tryd.ntmps66
 go_wp2_with (first | ((with_reducible refine gate_callee (f := 83) rfl ?_); refine goesL_ (some 7) rfl rfl Tryd.func83 (by kernel_rfl) rfl #[.int .i64 a0, .int .i64 1000000] rfl (by (try simp only [List.map_toArray, List.map_cons, List.map_nil]); first | done | rfl | (simp only [List.length_drop, List.length_take]; rfl)) ?_; (with_reducible refine (drumlineref1_Ceil.calls a0 1000000 t320 t321 _ A2.out).mono ?_); rintro e w' ⟨rfl, ⟨nd, rfl⟩⟩; refine ⟨_, rfl, ?_⟩))
 go_ret
 exact ⟨by first | rfl | (simp; done) | (simp [*]; done), by repeat (first | exact Drawn0.refl _ | apply Drawn0.step)⟩


/-! ### drumlineref5_edge: function 56 -/
def drumlineref5_edge.f (l0_0 : List (S60)) (l0_1 : List (S37)) (a0_2 : Int) (a0_3 : Int) (a0_4 : Int) (a0_5 : Int) (a0_6 : Int) (a0_7 : Int) (a0_8 : Int) (a0_9 : Int) (a0_10 : Int) (a0_11 : Int) (a0_12 : Int) : Option (Int) := (drumlineref5_up.f (wrap64 ((wrap64 (2 * a0_6)) * a0_2))).bind fun t323 => (some (wrap64 (t323 + 1)))
set_option maxHeartbeats 8000000 in
set_option maxRecDepth 100000 in
theorem drumlineref5_edge.calls (A0_0 : Option Addr) (c0_0 : Nat) (l0_0 : List (S60)) (A0_1 : Option Addr) (c0_1 : Nat) (l0_1 : List (S37)) (a0_2 : Int) (a0_3 : Int) (a0_4 : Int) (a0_5 : Int) (a0_6 : Int) (a0_7 : Int) (a0_8 : Int) (a0_9 : Int) (a0_10 : Int) (a0_11 : Int) (a0_12 : Int) (r : Int) (w : World) (hr0_0 : Kd.C k60 w A0_0 l0_0.length l0_0) (hc0_0 : l0_0.length ≤ c0_0) (hr0_1 : Kd.C k37 w A0_1 l0_1.length l0_1) (hc0_1 : l0_1.length ≤ c0_1) (h : drumlineref5_edge.f l0_0 l0_1 a0_2 a0_3 a0_4 a0_5 a0_6 a0_7 a0_8 a0_9 a0_10 a0_11 a0_12 = some r) :
  Calls Tryd.prog 56 #[.agg #[.slice A0_0 l0_0.length c0_0, .slice A0_1 l0_1.length c0_1, .int .i64 a0_2, .int .i64 a0_3, .int .i64 a0_4, .int .i64 a0_5, .int .i64 a0_6, .int .i64 a0_7, .int .i64 a0_8, .int .i64 a0_9, .int .i64 a0_10, .int .i64 a0_11, .int .i64 a0_12]] w fun e w' => e = .returned (.int .i64 r) ∧ Below w.heap.size w w' := by
 have hu25 := Tryd.underlying25
 have HR0_0 := Aside0.mk hr0_0
 have HC0_0 := Aside0.mk hc0_0
 clear hr0_0 hc0_0
 have HR0_1 := Aside0.mk hr0_1
 have HC0_1 := Aside0.mk hc0_1
 clear hr0_1 hc0_1
 have HB := Aside0.mk (Below.refl w.heap.size w)
 have H : ((drumlineref5_up.f (wrap64 ((wrap64 (2 * a0_6)) * a0_2))).bind fun t323 => (some (wrap64 (t323 + 1)))) = some r := h
 clear h
 replace H := Option.bind_eq_some_iff.mp H
 obtain ⟨t323, A20, H⟩ := H
 replace H : (some (wrap64 (t323 + 1))) = some r := H
 have A2 := Aside0.mk A20
 clear A20
 obtain rfl := Option.some.inj H
 go_enter Tryd.func56, Tryd.ntmps56
 go_wp2_with (first | ((with_reducible refine gate_dst (N := 1) rfl ?_); refine box_event ?hg (N := 1) ?hd (cs := #[.slice A0_0 l0_0.length c0_0, .slice A0_1 l0_1.length c0_1, .int .i64 a0_2, .int .i64 a0_3, .int .i64 a0_4, .int .i64 a0_5, .int .i64 a0_6, .int .i64 a0_7, .int .i64 a0_8, .int .i64 a0_9, .int .i64 a0_10, .int .i64 a0_11, .int .i64 a0_12]) (t := 25) ?hr ?_; (case hd => rfl); (case hg => rfl); (case hr => first | (go_simp; done) | (go_simp; rfl)); intro gb322 hg w3 hbox hb; have n0_ := Aside0.mk (below_step (by repeat (first | (with_reducible first | exact HB.out | apply below_alloc | apply pw_below_drewN | apply below_drew1) | exact HB.out)) hb); have n1_ := Aside0.mk (hbox); have n2_ := Aside0.mk ((by rw [hg]; exact (below_size (by repeat (first | (with_reducible first | exact HB.out | apply below_alloc | apply pw_below_drewN | apply below_drew1) | exact HB.out))) : w.heap.size ≤ gb322)); have n3_ := Aside0.mk ((by rw [hg]; exact (below_size (by repeat (first | (with_reducible first | exact HB.out | apply below_alloc | apply pw_below_drewN | apply below_drew1) | exact HB.out))) : w.heap.size ≤ gb322)); clear HB; have HB := n0_; have BK322 := n1_; have GW322 := n2_; have GE322 := n3_; clear n0_ n1_ n2_ n3_; clear hb hbox hg; obtain ⟨hcz4_0, hcz4_1, hcz4_2, hcz4_3, hcz4_4, hcz4_5, hcz4_6, hcz4_7, hcz4_8, hcz4_9, hcz4_10, hcz4_11, hcz4_12⟩ := cellsK13 BK322.out; obtain ⟨hfz4_0, hfz4_1, hfz4_2, hfz4_3, hfz4_4, hfz4_5, hfz4_6, hfz4_7, hfz4_8, hfz4_9, hfz4_10, hfz4_11, hfz4_12⟩ := frozK13 BK322.out) | ((with_reducible refine gate_callee (f := 66) rfl ?_); refine goesL_ (some 9) rfl rfl Tryd.func66 (by kernel_rfl) rfl #[.int .i64 (wrap64 ((wrap64 (2 * a0_6)) * a0_2))] rfl (by (try simp only [List.map_toArray, List.map_cons, List.map_nil]); first | done | rfl | (simp only [List.length_drop, List.length_take]; rfl)) ?_; (with_reducible refine (drumlineref5_up.calls (wrap64 ((wrap64 (2 * a0_6)) * a0_2)) t323 _ A2.out).mono ?_); rintro e w' ⟨rfl, ⟨nd, rfl⟩⟩; refine ⟨_, rfl, ?_⟩))
 go_ret
 exact ⟨by first | rfl | (simp [errW_none, errW_some] <;> rfl) | (simp [*, errW_none, errW_some] <;> rfl), by repeat (first | (with_reducible first | exact HB.out | apply below_alloc | apply pw_below_drewN | apply below_drew1 | refine below_set ?_ GE322.out) | exact HB.out)⟩


/-! ### drumlineref5_Edge: function 41 -/
def drumlineref5_Edge.f (k : Nat) (l0_0 : List (S60)) (l0_1 : List (S37)) (a0_2 : Int) (a0_3 : Int) (a0_4 : Int) (a0_5 : Int) (a0_6 : Int) (a0_7 : Int) (a0_8 : Int) (a0_9 : Int) (a0_10 : Int) (a0_11 : Int) (a0_12 : Int) : Option (Int) := (drumlineref5_ranged.f k l0_0 l0_1 a0_2 a0_3 a0_4 a0_5 a0_6 a0_7 a0_8 a0_9 a0_10 a0_11 a0_12).bind fun t325 => (if t325 = true then ((drumlineref5_edge.f l0_0 l0_1 a0_2 a0_3 a0_4 a0_5 a0_6 a0_7 a0_8 a0_9 a0_10 a0_11 a0_12).bind fun t326 => (some t326)) else (some 0))
theorem drumlineref5_Edge.mono : ∀ a0 a1 a2 a3 a4 a5 a6 a7 a8 a9 a10 a11 a12 k, LeO (drumlineref5_Edge.f k a0 a1 a2 a3 a4 a5 a6 a7 a8 a9 a10 a11 a12) (drumlineref5_Edge.f (k + 1) a0 a1 a2 a3 a4 a5 a6 a7 a8 a9 a10 a11 a12) := by
 intro a0 a1 a2 a3 a4 a5 a6 a7 a8 a9 a10 a11 a12 k
 unfold drumlineref5_Edge.f
 repeat' first
   | (with_reducible exact drumlineref5_ranged.mono _ _ _ _ _ _ _ _ _ _ _ _ _ _)
   | (with_reducible exact LeO.refl _)
   | (with_reducible exact LeO.none _)
   | (with_reducible refine LeO.ite ?_ ?_)
   | (with_reducible refine LeO.bind ?_ (fun _ => ?_))
   | exact drumlineref5_ranged.mono _ _ _ _ _ _ _ _ _ _ _ _ _ _
   | exact LeO.none _
   | refine LeO.ite ?_ ?_
   | refine LeO.bind ?_ (fun _ => ?_)
set_option maxHeartbeats 8000000 in
set_option maxRecDepth 100000 in
theorem drumlineref5_Edge.calls (k : Nat) (A0_0 : Option Addr) (c0_0 : Nat) (l0_0 : List (S60)) (A0_1 : Option Addr) (c0_1 : Nat) (l0_1 : List (S37)) (a0_2 : Int) (a0_3 : Int) (a0_4 : Int) (a0_5 : Int) (a0_6 : Int) (a0_7 : Int) (a0_8 : Int) (a0_9 : Int) (a0_10 : Int) (a0_11 : Int) (a0_12 : Int) (r : Int) (w : World) (hr0_0 : Kd.C k60 w A0_0 l0_0.length l0_0) (hc0_0 : l0_0.length ≤ c0_0) (hr0_1 : Kd.C k37 w A0_1 l0_1.length l0_1) (hc0_1 : l0_1.length ≤ c0_1) (h : drumlineref5_Edge.f k l0_0 l0_1 a0_2 a0_3 a0_4 a0_5 a0_6 a0_7 a0_8 a0_9 a0_10 a0_11 a0_12 = some r) :
  Calls Tryd.prog 41 #[.agg #[.slice A0_0 l0_0.length c0_0, .slice A0_1 l0_1.length c0_1, .int .i64 a0_2, .int .i64 a0_3, .int .i64 a0_4, .int .i64 a0_5, .int .i64 a0_6, .int .i64 a0_7, .int .i64 a0_8, .int .i64 a0_9, .int .i64 a0_10, .int .i64 a0_11, .int .i64 a0_12]] w fun e w' => e = .returned (.int .i64 r) ∧ Below w.heap.size w w' := by
 have hu25 := Tryd.underlying25
 have HR0_0 := Aside0.mk hr0_0
 have HC0_0 := Aside0.mk hc0_0
 clear hr0_0 hc0_0
 have HR0_1 := Aside0.mk hr0_1
 have HC0_1 := Aside0.mk hc0_1
 clear hr0_1 hc0_1
 have HB := Aside0.mk (Below.refl w.heap.size w)
 have H : ((drumlineref5_ranged.f k l0_0 l0_1 a0_2 a0_3 a0_4 a0_5 a0_6 a0_7 a0_8 a0_9 a0_10 a0_11 a0_12).bind fun t325 => (if t325 = true then ((drumlineref5_edge.f l0_0 l0_1 a0_2 a0_3 a0_4 a0_5 a0_6 a0_7 a0_8 a0_9 a0_10 a0_11 a0_12).bind fun t326 => (some t326)) else (some 0))) = some r := h
 clear h
 replace H := Option.bind_eq_some_iff.mp H
 obtain ⟨t325, A20, H⟩ := H
 replace H : (if t325 = true then ((drumlineref5_edge.f l0_0 l0_1 a0_2 a0_3 a0_4 a0_5 a0_6 a0_7 a0_8 a0_9 a0_10 a0_11 a0_12).bind fun t326 => (some t326)) else (some 0)) = some r := H
 have A2 := Aside0.mk A20
 clear A20
 by_cases c3 : t325 = true
 ·subst c3
  have H1 : ((drumlineref5_edge.f l0_0 l0_1 a0_2 a0_3 a0_4 a0_5 a0_6 a0_7 a0_8 a0_9 a0_10 a0_11 a0_12).bind fun t326 => (some t326)) = some r := by rw [if_pos rfl] at H; exact H
  clear H
  have H := H1
  clear H1
  replace H := Option.bind_eq_some_iff.mp H
  obtain ⟨t326, A40, H⟩ := H
  replace H : (some t326) = some r := H
  have A4 := Aside0.mk A40
  clear A40
  obtain rfl := Option.some.inj H
  go_enter Tryd.func41, Tryd.ntmps41
  go_wp2_with (first | ((with_reducible refine gate_dst (N := 1) rfl ?_); refine box_event ?hg (N := 1) ?hd (cs := #[.slice A0_0 l0_0.length c0_0, .slice A0_1 l0_1.length c0_1, .int .i64 a0_2, .int .i64 a0_3, .int .i64 a0_4, .int .i64 a0_5, .int .i64 a0_6, .int .i64 a0_7, .int .i64 a0_8, .int .i64 a0_9, .int .i64 a0_10, .int .i64 a0_11, .int .i64 a0_12]) (t := 25) ?hr ?_; (case hd => rfl); (case hg => rfl); (case hr => first | (go_simp; done) | (go_simp; rfl)); intro gb324 hg w5 hbox hb; have n0_ := Aside0.mk (below_step (by repeat (first | (with_reducible first | exact HB.out | apply below_alloc | apply pw_below_drewN | apply below_drew1) | exact HB.out)) hb); have n1_ := Aside0.mk (hbox); have n2_ := Aside0.mk ((by rw [hg]; exact (below_size (by repeat (first | (with_reducible first | exact HB.out | apply below_alloc | apply pw_below_drewN | apply below_drew1) | exact HB.out))) : w.heap.size ≤ gb324)); have n3_ := Aside0.mk ((by rw [hg]; exact (below_size (by repeat (first | (with_reducible first | exact HB.out | apply below_alloc | apply pw_below_drewN | apply below_drew1) | exact HB.out))) : w.heap.size ≤ gb324)); clear HB; have HB := n0_; have BK324 := n1_; have GW324 := n2_; have GE324 := n3_; clear n0_ n1_ n2_ n3_; clear hb hbox hg; obtain ⟨hcz6_0, hcz6_1, hcz6_2, hcz6_3, hcz6_4, hcz6_5, hcz6_6, hcz6_7, hcz6_8, hcz6_9, hcz6_10, hcz6_11, hcz6_12⟩ := cellsK13 BK324.out; obtain ⟨hfz6_0, hfz6_1, hfz6_2, hfz6_3, hfz6_4, hfz6_5, hfz6_6, hfz6_7, hfz6_8, hfz6_9, hfz6_10, hfz6_11, hfz6_12⟩ := frozK13 BK324.out) | ((with_reducible refine gate_callee (f := 55) rfl ?_); refine goesL_ (some 4) rfl rfl Tryd.func55 (by kernel_rfl) rfl #[.agg #[.slice A0_0 l0_0.length c0_0, .slice A0_1 l0_1.length c0_1, .int .i64 a0_2, .int .i64 a0_3, .int .i64 a0_4, .int .i64 a0_5, .int .i64 a0_6, .int .i64 a0_7, .int .i64 a0_8, .int .i64 a0_9, .int .i64 a0_10, .int .i64 a0_11, .int .i64 a0_12]] rfl (by (try simp only [List.map_toArray, List.map_cons, List.map_nil]); first | done | rfl | (simp only [List.length_drop, List.length_take]; rfl)) ?_; (with_reducible refine (drumlineref5_ranged.calls k _ _ l0_0 _ _ l0_1 a0_2 a0_3 a0_4 a0_5 a0_6 a0_7 a0_8 a0_9 a0_10 a0_11 a0_12 true _ ?side1 ?side2 ?side3 ?side4 A2.out).mono ?_); (case side1 => repeat (first | exact (Kd.C_below HR0_0.out HB.out) | (with_reducible refine Kd.C_alloc ?_ _) | (with_reducible refine Kd.C_drewN ?_ _) | (with_reducible refine Kd.C_drew ?_))); (case side2 => exact HC0_0.out); (case side3 => repeat (first | exact (Kd.C_below HR0_1.out HB.out) | (with_reducible refine Kd.C_alloc ?_ _) | (with_reducible refine Kd.C_drewN ?_ _) | (with_reducible refine Kd.C_drew ?_))); (case side4 => exact HC0_1.out); rintro e w7 ⟨rfl, hb⟩; refine ⟨_, rfl, ?_⟩; have n0_ := Aside0.mk (blk_below (g := gb324) (o := .cells #[.slice A0_0 l0_0.length c0_0, .slice A0_1 l0_1.length c0_1, .int .i64 a0_2, .int .i64 a0_3, .int .i64 a0_4, .int .i64 a0_5, .int .i64 a0_6, .int .i64 a0_7, .int .i64 a0_8, .int .i64 a0_9, .int .i64 a0_10, .int .i64 a0_11, .int .i64 a0_12] 25 (0, 0)) (by (with_reducible repeat (first | refine blk_drewN ?_ _ | refine blk_drew ?_ | refine blk_alloc ?_ _)); exact BK324.out) hb); have n1_ := Aside0.mk (below_step (by repeat (first | (with_reducible first | exact HB.out | apply below_alloc | apply pw_below_drewN | apply below_drew1 | refine below_set ?_ GE324.out) | exact HB.out)) hb); clear BK324; clear HB; have BK324 := n0_; have HB := n1_; clear n0_ n1_; (try clear hb); (try clear hb2); (try clear hk); (try clear hi); obtain ⟨hcz8_0, hcz8_1, hcz8_2, hcz8_3, hcz8_4, hcz8_5, hcz8_6, hcz8_7, hcz8_8, hcz8_9, hcz8_10, hcz8_11, hcz8_12⟩ := cellsK13 BK324.out; obtain ⟨hfz8_0, hfz8_1, hfz8_2, hfz8_3, hfz8_4, hfz8_5, hfz8_6, hfz8_7, hfz8_8, hfz8_9, hfz8_10, hfz8_11, hfz8_12⟩ := frozK13 BK324.out) | ((with_reducible refine gate_callee (f := 56) rfl ?_); refine goesL_ (some 7) rfl rfl Tryd.func56 (by kernel_rfl) rfl #[.agg #[.slice A0_0 l0_0.length c0_0, .slice A0_1 l0_1.length c0_1, .int .i64 a0_2, .int .i64 a0_3, .int .i64 a0_4, .int .i64 a0_5, .int .i64 a0_6, .int .i64 a0_7, .int .i64 a0_8, .int .i64 a0_9, .int .i64 a0_10, .int .i64 a0_11, .int .i64 a0_12]] rfl (by (try simp only [List.map_toArray, List.map_cons, List.map_nil]); first | done | rfl | (simp only [List.length_drop, List.length_take]; rfl)) ?_; (with_reducible refine (drumlineref5_edge.calls _ _ l0_0 _ _ l0_1 a0_2 a0_3 a0_4 a0_5 a0_6 a0_7 a0_8 a0_9 a0_10 a0_11 a0_12 t326 _ ?side1 ?side2 ?side3 ?side4 A4.out).mono ?_); (case side1 => repeat (first | exact (Kd.C_below HR0_0.out HB.out) | (with_reducible refine Kd.C_alloc ?_ _) | (with_reducible refine Kd.C_drewN ?_ _) | (with_reducible refine Kd.C_drew ?_))); (case side2 => exact HC0_0.out); (case side3 => repeat (first | exact (Kd.C_below HR0_1.out HB.out) | (with_reducible refine Kd.C_alloc ?_ _) | (with_reducible refine Kd.C_drewN ?_ _) | (with_reducible refine Kd.C_drew ?_))); (case side4 => exact HC0_1.out); rintro e w9 ⟨rfl, hb⟩; refine ⟨_, rfl, ?_⟩; have n0_ := Aside0.mk (blk_below (g := gb324) (o := .cells #[.slice A0_0 l0_0.length c0_0, .slice A0_1 l0_1.length c0_1, .int .i64 a0_2, .int .i64 a0_3, .int .i64 a0_4, .int .i64 a0_5, .int .i64 a0_6, .int .i64 a0_7, .int .i64 a0_8, .int .i64 a0_9, .int .i64 a0_10, .int .i64 a0_11, .int .i64 a0_12] 25 (0, 0)) (by (with_reducible repeat (first | refine blk_drewN ?_ _ | refine blk_drew ?_ | refine blk_alloc ?_ _)); exact BK324.out) hb); have n1_ := Aside0.mk (below_step (by repeat (first | (with_reducible first | exact HB.out | apply below_alloc | apply pw_below_drewN | apply below_drew1 | refine below_set ?_ GE324.out) | exact HB.out)) hb); clear BK324; clear HB; have BK324 := n0_; have HB := n1_; clear n0_ n1_; (try clear hb); (try clear hb2); (try clear hk); (try clear hi)))
  go_ret
  exact ⟨by first | rfl | (simp [errW_none, errW_some] <;> rfl) | (simp [*, errW_none, errW_some] <;> rfl), by repeat (first | (with_reducible first | exact HB.out | apply below_alloc | apply pw_below_drewN | apply below_drew1 | refine below_set ?_ GE324.out) | exact HB.out)⟩
 ·replace c3 := Bool.eq_false_iff.mpr c3
  subst c3
  have H1 : (some 0) = some r := by rw [if_neg (show ¬ (false = true) by decide)] at H; exact H
  clear H
  have H := H1
  clear H1
  obtain rfl := Option.some.inj H
  go_enter Tryd.func41, Tryd.ntmps41
  go_wp2_with (first | ((with_reducible refine gate_dst (N := 1) rfl ?_); refine box_event ?hg (N := 1) ?hd (cs := #[.slice A0_0 l0_0.length c0_0, .slice A0_1 l0_1.length c0_1, .int .i64 a0_2, .int .i64 a0_3, .int .i64 a0_4, .int .i64 a0_5, .int .i64 a0_6, .int .i64 a0_7, .int .i64 a0_8, .int .i64 a0_9, .int .i64 a0_10, .int .i64 a0_11, .int .i64 a0_12]) (t := 25) ?hr ?_; (case hd => rfl); (case hg => rfl); (case hr => first | (go_simp; done) | (go_simp; rfl)); intro gb324 hg w10 hbox hb; have n0_ := Aside0.mk (below_step (by repeat (first | (with_reducible first | exact HB.out | apply below_alloc | apply pw_below_drewN | apply below_drew1) | exact HB.out)) hb); have n1_ := Aside0.mk (hbox); have n2_ := Aside0.mk ((by rw [hg]; exact (below_size (by repeat (first | (with_reducible first | exact HB.out | apply below_alloc | apply pw_below_drewN | apply below_drew1) | exact HB.out))) : w.heap.size ≤ gb324)); have n3_ := Aside0.mk ((by rw [hg]; exact (below_size (by repeat (first | (with_reducible first | exact HB.out | apply below_alloc | apply pw_below_drewN | apply below_drew1) | exact HB.out))) : w.heap.size ≤ gb324)); clear HB; have HB := n0_; have BK324 := n1_; have GW324 := n2_; have GE324 := n3_; clear n0_ n1_ n2_ n3_; clear hb hbox hg; obtain ⟨hcz11_0, hcz11_1, hcz11_2, hcz11_3, hcz11_4, hcz11_5, hcz11_6, hcz11_7, hcz11_8, hcz11_9, hcz11_10, hcz11_11, hcz11_12⟩ := cellsK13 BK324.out; obtain ⟨hfz11_0, hfz11_1, hfz11_2, hfz11_3, hfz11_4, hfz11_5, hfz11_6, hfz11_7, hfz11_8, hfz11_9, hfz11_10, hfz11_11, hfz11_12⟩ := frozK13 BK324.out) | ((with_reducible refine gate_callee (f := 55) rfl ?_); refine goesL_ (some 4) rfl rfl Tryd.func55 (by kernel_rfl) rfl #[.agg #[.slice A0_0 l0_0.length c0_0, .slice A0_1 l0_1.length c0_1, .int .i64 a0_2, .int .i64 a0_3, .int .i64 a0_4, .int .i64 a0_5, .int .i64 a0_6, .int .i64 a0_7, .int .i64 a0_8, .int .i64 a0_9, .int .i64 a0_10, .int .i64 a0_11, .int .i64 a0_12]] rfl (by (try simp only [List.map_toArray, List.map_cons, List.map_nil]); first | done | rfl | (simp only [List.length_drop, List.length_take]; rfl)) ?_; (with_reducible refine (drumlineref5_ranged.calls k _ _ l0_0 _ _ l0_1 a0_2 a0_3 a0_4 a0_5 a0_6 a0_7 a0_8 a0_9 a0_10 a0_11 a0_12 false _ ?side1 ?side2 ?side3 ?side4 A2.out).mono ?_); (case side1 => repeat (first | exact (Kd.C_below HR0_0.out HB.out) | (with_reducible refine Kd.C_alloc ?_ _) | (with_reducible refine Kd.C_drewN ?_ _) | (with_reducible refine Kd.C_drew ?_))); (case side2 => exact HC0_0.out); (case side3 => repeat (first | exact (Kd.C_below HR0_1.out HB.out) | (with_reducible refine Kd.C_alloc ?_ _) | (with_reducible refine Kd.C_drewN ?_ _) | (with_reducible refine Kd.C_drew ?_))); (case side4 => exact HC0_1.out); rintro e w12 ⟨rfl, hb⟩; refine ⟨_, rfl, ?_⟩; have n0_ := Aside0.mk (blk_below (g := gb324) (o := .cells #[.slice A0_0 l0_0.length c0_0, .slice A0_1 l0_1.length c0_1, .int .i64 a0_2, .int .i64 a0_3, .int .i64 a0_4, .int .i64 a0_5, .int .i64 a0_6, .int .i64 a0_7, .int .i64 a0_8, .int .i64 a0_9, .int .i64 a0_10, .int .i64 a0_11, .int .i64 a0_12] 25 (0, 0)) (by (with_reducible repeat (first | refine blk_drewN ?_ _ | refine blk_drew ?_ | refine blk_alloc ?_ _)); exact BK324.out) hb); have n1_ := Aside0.mk (below_step (by repeat (first | (with_reducible first | exact HB.out | apply below_alloc | apply pw_below_drewN | apply below_drew1 | refine below_set ?_ GE324.out) | exact HB.out)) hb); clear BK324; clear HB; have BK324 := n0_; have HB := n1_; clear n0_ n1_; (try clear hb); (try clear hb2); (try clear hk); (try clear hi)))
  go_ret
  exact ⟨by first | rfl | (simp [errW_none, errW_some] <;> rfl) | (simp [*, errW_none, errW_some] <;> rfl), by repeat (first | (with_reducible first | exact HB.out | apply below_alloc | apply pw_below_drewN | apply below_drew1 | refine below_set ?_ GE324.out) | exact HB.out)⟩

end Go.Proofs.YtkhlndhleiaokaaDoor.MHo
