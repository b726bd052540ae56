/- Texts of this claim, laid together by a program (wip/g/merge5.py): HFt. -/
import Derived.Test.YtbefbhghmommhaaGreatDoorZWd17
import Derived.Test.YtbefbhghmommhaaGreatDoorZWd26
set_option linter.unusedVariables false
set_option linter.unusedSimpArgs false
set_option maxRecDepth 100000
namespace Go.Proofs.YtbefbhghmommhaaGreatDoor.MWo
open Go.RowKit Go.Proofs.YtbefbhghmommhaaGreatDoorW.PrintWords Go.Proofs.YtbefbhghmommhaaGreatDoorW.PrintLast Go.Proofs.YtbefbhghmommhaaGreatDoorW.PrintMore
structure FitsOk (P : List S68) (L : List S71) (a2 a3 a4 a5 a6 a7 a8 a9 a10 a11 a12 e j : Int) : Prop where
 p0 : 1 ≤ P.length
 p6 : P.length ≤ 6
 l10 : L.length ≤ 10
 he : dr5_edge.f P L a2 a3 a4 a5 a6 a7 a8 a9 a10 a11 a12 = some e
 hj : dr5_jump.f P L a2 a3 a4 a5 a6 a7 a8 a9 a10 a11 a12 = some j
 e0 : 0 ≤ e ∧ 3 * e ≤ a5
 qa5 : a5 ≤ 20000
 qa4 : 2 * a5 + 1 ≤ a4 ∧ a4 ≤ 1000000
 qa3 : a5 ≤ a3 ∧ a3 ≤ 1000000
 qa2 : 0 ≤ a2 ∧ a2 ≤ 1000000
 pts : ∀ i : Int, 0 ≤ i → i < P.length → ∃ p, dr5_ports.f 100 P L a2 a3 a4 a5 a6 a7 a8 a9 a10 a11 a12 i = some p ∧ 0 ≤ p ∧ p ≤ 100 ∧ 0 ≤ (rd_T68 P i).f0 ∧ (rd_T68 P i).f0 ≤ 100 ∧ a3 + (3 * p + (rd_T68 P i).f0) * a4 + a5 ≤ a2
 j0 : 0 ≤ j ∧ j ≤ 1000000000 ∧ j * 1000000 ≤ a7 * a2
 qa7 : 0 ≤ a7 ∧ a7 ≤ 400000
 qa9 : 0 ≤ a9 ∧ a9 ≤ 20
 qa8 : (P.length - 1) * (a9 + 1) + 1 ≤ a8
 qa10 : P.length * (a9 + 1) + 2 ≤ a10 ∧ a10 ≤ 60000
 qa11 : P.length * (a9 + 1) + 2 ≤ a11 ∧ a11 ≤ 60000
 sp : a10 + P.length * a11 ≤ 60000
 qa12 : P.length + 2 ≤ a12 ∧ a12 ≤ 64
theorem c_lt' {w : World} {a : Addr} {v : Value} (h : w.cell? a = some v) : a.block < w.heap.size := World.block_lt_of_cell? _ _ h
set_option maxHeartbeats 4000000 in
theorem fits_yes (A0 : Option Addr) (c0 : Nat) (P : List S68) (A1 : Option Addr) (c1 : Nat) (L : List S71) (a2 a3 a4 a5 a6 a7 a8 a9 a10 a11 a12 e j : Int) (w : World) (hr0 : Kd.C k68 w A0 P.length P) (hc0 : P.length ≤ c0) (hr1 : Kd.C k71 w A1 L.length L) (hc1 : L.length ≤ c1) (hf : FitsOk P L a2 a3 a4 a5 a6 a7 a8 a9 a10 a11 a12 e j) :
  Calls Tryz.prog 76 #[.agg #[.slice A0 P.length c0, .slice A1 L.length c1, .int .i64 a2, .int .i64 a3, .int .i64 a4, .int .i64 a5, .int .i64 a6, .int .i64 a7, .int .i64 a8, .int .i64 a9, .int .i64 a10, .int .i64 a11, .int .i64 a12]] w fun e w' => e = .returned (.int .i64 0) ∧ Below w.heap.size w w' := by
 have HFm : Aside0 (0 ≤ (P.length : Int) * (a9 + 1) ∧ (P.length : Int) * (a9 + 1) ≤ 126 ∧ ((P.length : Int) - 1) * (a9 + 1) ≤ 126 ∧ 0 ≤ ((P.length : Int) - 1) * (a9 + 1) ∧ 0 ≤ (P.length : Int) * a11 ∧ (P.length : Int) * a11 ≤ 360000 ∧ 0 ≤ a7 * a2 ∧ a7 * a2 ≤ 400000000000) := ⟨by
  have h1 := hf.p0; have h2 := hf.p6; have h3 := hf.qa9; have h4 := hf.qa11; have h5 := hf.qa7; have h6 := hf.qa2
  have q0 : 0 ≤ (P.length : Int) * (a9 + 1) := Int.mul_nonneg (by omega) (by omega)
  have q1 : (P.length : Int) * (a9 + 1) ≤ 6 * (a9 + 1) := Int.mul_le_mul_of_nonneg_right (by omega) (by omega)
  have q2 : ((P.length : Int) - 1) * (a9 + 1) ≤ 5 * (a9 + 1) := Int.mul_le_mul_of_nonneg_right (by omega) (by omega)
  have q3 : 0 ≤ ((P.length : Int) - 1) * (a9 + 1) := Int.mul_nonneg (by omega) (by omega)
  have q4 : 0 ≤ (P.length : Int) * a11 := Int.mul_nonneg (by omega) (by omega)
  have q5 : (P.length : Int) * a11 ≤ 6 * a11 := Int.mul_le_mul_of_nonneg_right (by omega) (by omega)
  have q6 : 0 ≤ a7 * a2 := Int.mul_nonneg (by omega) (by omega)
  have q7 : a7 * a2 ≤ 400000 * a2 := Int.mul_le_mul_of_nonneg_right (by omega) (by omega)
  omega⟩
 have HR0 := am hr0
 have HR1 := am hr1
 have HC0 := am hc0
 have HC1 := am hc1
 have HF := am hf
 clear hr0 hr1 hc0 hc1 hf
 go_enter Tryz.func76, Tryz.ntmps76
 go_upto_region 1 with fail
 have HO : Aside0 ((w.alloc (.cells #[.slice A0 P.length c0, .slice A1 L.length c1, .int .i64 a2, .int .i64 a3, .int .i64 a4, .int .i64 a5, .int .i64 a6, .int .i64 a7, .int .i64 a8, .int .i64 a9, .int .i64 a10, .int .i64 a11, .int .i64 a12] 25)).heap[w.heap.size]? = some (.cells #[.slice A0 P.length c0, .slice A1 L.length c1, .int .i64 a2, .int .i64 a3, .int .i64 a4, .int .i64 a5, .int .i64 a6, .int .i64 a7, .int .i64 a8, .int .i64 a9, .int .i64 a10, .int .i64 a11, .int .i64 a12] 25 (0, 0))) := ⟨heap_alloc_new w _⟩
 have HB := am (below_alloc (Below.refl w.heap.size w) (Obj.cells #[.slice A0 P.length c0, .slice A1 L.length c1, .int .i64 a2, .int .i64 a3, .int .i64 a4, .int .i64 a5, .int .i64 a6, .int .i64 a7, .int .i64 a8, .int .i64 a9, .int .i64 a10, .int .i64 a11, .int .i64 a12] 25))
 generalize w.alloc (.cells #[.slice A0 P.length c0, .slice A1 L.length c1, .int .i64 a2, .int .i64 a3, .int .i64 a4, .int .i64 a5, .int .i64 a6, .int .i64 a7, .int .i64 a8, .int .i64 a9, .int .i64 a10, .int .i64 a11, .int .i64 a12] 25) = wa at *
 obtain ⟨bx, hbx⟩ : ∃ bx, bx = w.heap.size := ⟨_, rfl⟩
 rw [← hbx]
 rw [← hbx] at HO
 clear hbx
 obtain ⟨x0, x1, x2, x3, x4, x5, x6, x7, x8, x9, x10, x11, x12⟩ := cellsK13 HO.out
 have m1 : wrap64 (a9 + 1) = a9 + 1 := by have := HF.out.qa9; unfold wrap64; omega
 have m2 : wrap64 ((P.length : Int) * (a9 + 1)) = (P.length : Int) * (a9 + 1) := by have := HFm.out; unfold wrap64; omega
 have m3 : wrap64 ((P.length : Int) * (a9 + 1) + 2) = (P.length : Int) * (a9 + 1) + 2 := by have := HFm.out; unfold wrap64; omega
 go_upto_region 3 with fail
 obtain ⟨q4, hq4⟩ : ∃ q4, q4 = (P.length : Int) * (a9 + 1) + 2 := ⟨_, rfl⟩
 have HQ4 := am hq4
 rw [← hq4]
 have hq5 : wrap64 q4 = q4 := by have := HFm.out; have := HQ4.out; unfold wrap64; omega
 rw [hq5]
 clear hq5
 clear hq4 m1 m2 m3
 have m4 : wrap64 (3 * e) = 3 * e := by have := HF.out.e0; have := HF.out.qa5; unfold wrap64; omega
 have t1 : decide (a5 < 3 * e) = false := dF (by have := HF.out.e0; omega)
 have t2 : decide (20000 < a5) = false := dF (by have := HF.out.qa5; omega)
 have dd0 : wa.drew.cell? ⟨bx, 0, none⟩ = some (.slice A0 P.length c0) := x0
 have dd1 : wa.drew.cell? ⟨bx, 1, none⟩ = some (.slice A1 L.length c1) := x1
 have dd2 : wa.drew.cell? ⟨bx, 2, none⟩ = some (.int .i64 a2) := x2
 have dd3 : wa.drew.cell? ⟨bx, 3, none⟩ = some (.int .i64 a3) := x3
 have dd4 : wa.drew.cell? ⟨bx, 4, none⟩ = some (.int .i64 a4) := x4
 have dd5 : wa.drew.cell? ⟨bx, 5, none⟩ = some (.int .i64 a5) := x5
 have dd6 : wa.drew.cell? ⟨bx, 6, none⟩ = some (.int .i64 a6) := x6
 have dd7 : wa.drew.cell? ⟨bx, 7, none⟩ = some (.int .i64 a7) := x7
 have dd8 : wa.drew.cell? ⟨bx, 8, none⟩ = some (.int .i64 a8) := x8
 have dd9 : wa.drew.cell? ⟨bx, 9, none⟩ = some (.int .i64 a9) := x9
 have dd10 : wa.drew.cell? ⟨bx, 10, none⟩ = some (.int .i64 a10) := x10
 have dd11 : wa.drew.cell? ⟨bx, 11, none⟩ = some (.int .i64 a11) := x11
 have dd12 : wa.drew.cell? ⟨bx, 12, none⟩ = some (.int .i64 a12) := x12
 refine start_ (n := 12) (S := fun w' => w'.cell? ⟨bx, 0, none⟩ = some (.slice A0 P.length c0) ∧ w'.cell? ⟨bx, 1, none⟩ = some (.slice A1 L.length c1) ∧ w'.cell? ⟨bx, 2, none⟩ = some (.int .i64 a2) ∧ w'.cell? ⟨bx, 3, none⟩ = some (.int .i64 a3) ∧ w'.cell? ⟨bx, 4, none⟩ = some (.int .i64 a4) ∧ w'.cell? ⟨bx, 5, none⟩ = some (.int .i64 a5) ∧ w'.cell? ⟨bx, 6, none⟩ = some (.int .i64 a6) ∧ w'.cell? ⟨bx, 7, none⟩ = some (.int .i64 a7) ∧ w'.cell? ⟨bx, 8, none⟩ = some (.int .i64 a8) ∧ w'.cell? ⟨bx, 9, none⟩ = some (.int .i64 a9) ∧ w'.cell? ⟨bx, 10, none⟩ = some (.int .i64 a10) ∧ w'.cell? ⟨bx, 11, none⟩ = some (.int .i64 a11) ∧ w'.cell? ⟨bx, 12, none⟩ = some (.int .i64 a12)) (ds := []) #[false, false, false, false, false, false, false, false, false, false, false, false] (by kernel_rfl) rfl rfl ⟨dd0, dd1, dd2, dd3, dd4, dd5, dd6, dd7, dd8, dd9, dd10, dd11, dd12⟩ (fun hHeld => ?_)
 refine pu 0 16 ?_
 refine tk13 1 17 ?_
 refine tk13 2 18 ?_
 refine on 3 19 (fun K hK => ?_)
 refine goes_ Tryz.func61 (by kernel_rfl) rfl #[.agg #[.slice A0 P.length c0, .slice A1 L.length c1, .int .i64 a2, .int .i64 a3, .int .i64 a4, .int .i64 a5, .int .i64 a6, .int .i64 a7, .int .i64 a8, .int .i64 a9, .int .i64 a10, .int .i64 a11, .int .i64 a12]] (by rfl) rfl rfl lm ?_
 with_reducible refine (dr5_edge.calls A0 c0 P A1 c1 L a2 a3 a4 a5 a6 a7 a8 a9 a10 a11 a12 e _ (Kd.C_below (Kd.C_below HR0.out HB.out) (Below.refl _ _).drew) HC0.out (Kd.C_below (Kd.C_below HR1.out HB.out) (Below.refl _ _).drew) HC1.out HF.out.he).mono ?_
 rintro e w3 ⟨rfl, hb3⟩
 have HB3 := am (below_step HB.out.drew hb3)
 have HO3 := am ((hb3.block bx (blk_lt HO.out)).trans HO.out)
 have z0 := (hb3.cell (c_lt' dd0)).trans dd0
 have z1 := (hb3.cell (c_lt' dd1)).trans dd1
 have z2 := (hb3.cell (c_lt' dd2)).trans dd2
 have z3 := (hb3.cell (c_lt' dd3)).trans dd3
 have z4 := (hb3.cell (c_lt' dd4)).trans dd4
 have z5 := (hb3.cell (c_lt' dd5)).trans dd5
 have z6 := (hb3.cell (c_lt' dd6)).trans dd6
 have z7 := (hb3.cell (c_lt' dd7)).trans dd7
 have z8 := (hb3.cell (c_lt' dd8)).trans dd8
 have z9 := (hb3.cell (c_lt' dd9)).trans dd9
 have z10 := (hb3.cell (c_lt' dd10)).trans dd10
 have z11 := (hb3.cell (c_lt' dd11)).trans dd11
 have z12 := (hb3.cell (c_lt' dd12)).trans dd12
 clear hb3
 refine ⟨_, rfl, ?_⟩
 clear hHeld
 refine hK.out _ _ ⟨z0, z1, z2, z3, z4, z5, z6, z7, z8, z9, z10, z11, z12⟩ (fun hHeld => ?_)
 clear hK K
 refine norm_ (a' := ?_) ?_ ?_
 rotate_left
 ·show Act.put _ (some 19) _ = _
  simp only [Act.put, sAa, sBb, sCc, i64_w, i32_w]
  rfl
 refine pu 4 20 ?_
 refine pu 5 21 ?_
 refine pu 6 22 ?_
 refine pu 7 23 ?_
 refine tk13 8 24 ?_
 refine pu 9 25 ?_
 refine pu 10 26 ?_
 refine pu 11 15 ?_
 refine done_ (by kernel_rfl) ?_
 clear hHeld
 clear dd0 dd1 dd2 dd3 dd4 dd5 dd6 dd7 dd8 dd9 dd10 dd11 dd12 z0 z1 z2 z3 z4 z5 z6 z7 z8 z9 z10 z11 z12
 clear x0 x1 x2 x3 x4 x5 x6 x7 x8 x9 x10 x11 x12
 clear HB HO
 have HB := HB3
 have HO := HO3
 clear HB3 HO3
 obtain ⟨x0, x1, x2, x3, x4, x5, x6, x7, x8, x9, x10, x11, x12⟩ := cellsK13 HO.out
 have m5 : wrap64 (2 * a5) = 2 * a5 := by have := HF.out.e0; have := HF.out.qa5; unfold wrap64; omega
 have m6 : wrap64 (2 * a5 + 1) = 2 * a5 + 1 := by have := HF.out.e0; have := HF.out.qa5; unfold wrap64; omega
 have t3 : decide (a4 < 2 * a5 + 1) = false := dF (by have := HF.out.qa4; omega)
 have t4 : decide (1000000 < a4) = false := dF (by have := HF.out.qa4; omega)
 have t5 : decide (a3 < a5) = false := dF (by have := HF.out.qa3; omega)
 have t6 : decide (1000000 < a3) = false := dF (by have := HF.out.qa3; omega)
 go_wp2_with fail
 clear x0 x1 x2 x3 x4 x5 x6 x7 x8 x9 x10 x11 x12
 clear m4 m5 m6 t1 t2 t3 t4 t5 t6
 go_loopg [5] (P.length + 1) (fun kq v5 w' => ∃ i : Int, v5 = .int .i64 i ∧ Aside0 (kq + i = P.length + 1 ∧ 0 ≤ i) ∧ Aside0 (Below w.heap.size w w') ∧ Aside0 (w'.heap[bx]? = some (.cells #[.slice A0 P.length c0, .slice A1 L.length c1, .int .i64 a2, .int .i64 a3, .int .i64 a4, .int .i64 a5, .int .i64 a6, .int .i64 a7, .int .i64 a8, .int .i64 a9, .int .i64 a10, .int .i64 a11, .int .i64 a12] 25 (0, 0))))
 case atStart => exact ⟨0, rfl, ⟨by omega⟩, HB, HO⟩
 case round =>
  clear HB HO
  obtain ⟨i, rfl, HK, HB, HO⟩ := hrel
  obtain ⟨x0, x1, x2, x3, x4, x5, x6, x7, x8, x9, x10, x11, x12⟩ := cellsK13 HO.out
  by_cases hi1 : i < (P.length : Int)
  ·have hi0 := HK.out.2
   obtain ⟨p, hp1, hp2⟩ := HF.out.pts i hi0 hi1
   have HP1 := am hp1
   have HP2 := am hp2
   clear hp1 hp2
   obtain ⟨ad0, e0, y0, y1⟩ := at_T68 (Kd.C_below HR0.out HB.out) i hi0 hi1
   cases e0
   generalize (rd_T68 P i).f0 = nd at y0 HP2
   generalize (rd_T68 P i).f1 = fl at y1
   have hlt : decide (i < (P.length : Int)) = true := dT hi1
   have p0_ := eq_true hi0
   have p1_ := eq_true hi1
   have hq0 : 0 ≤ (3 * p + nd) * a4 ∧ (3 * p + nd) * a4 ≤ 1000000 := by
    have h1 := HP2.out; have h2 := HF.out.qa4; have h3 := HF.out.e0; have h4 := HF.out.qa2; have h5 := HF.out.qa3
    have h6 := Int.mul_nonneg (show 0 ≤ 3 * p + nd by omega) (show 0 ≤ a4 by omega)
    omega
   have HQ0 := am hq0
   clear hq0
   have m0 : wrap64 (i + 1) = i + 1 := by have := HF.out.p6; unfold wrap64; omega
   have m1 : wrap64 (3 * p) = 3 * p := by have := HP2.out; unfold wrap64; omega
   have m2 : wrap64 (3 * p + nd) = 3 * p + nd := by have := HP2.out; unfold wrap64; omega
   have m3 : wrap64 ((3 * p + nd) * a4) = (3 * p + nd) * a4 := by have := HQ0.out; unfold wrap64; omega
   have m4 : wrap64 (a3 + (3 * p + nd) * a4) = a3 + (3 * p + nd) * a4 := by have := HQ0.out; have := HF.out.qa3; have := HF.out.e0; unfold wrap64; omega
   have m5 : wrap64 (a3 + (3 * p + nd) * a4 + a5) = a3 + (3 * p + nd) * a4 + a5 := by have := HQ0.out; have := HF.out.qa3; have := HF.out.qa5; have := HF.out.e0; unfold wrap64; omega
   have t1 : decide (a2 < a3 + (3 * p + nd) * a4 + a5) = false := dF (by have := HP2.out; omega)
   cases gk with
   | zero => exact absurd HK.out (by omega)
   | succ k1 =>
   go_upto_region 12 with fail
   have dd0 : wr.drew.cell? ⟨bx, 0, none⟩ = some (.slice (some ad0) P.length c0) := x0
   have dd1 : wr.drew.cell? ⟨bx, 1, none⟩ = some (.slice A1 L.length c1) := x1
   have dd2 : wr.drew.cell? ⟨bx, 2, none⟩ = some (.int .i64 a2) := x2
   have dd3 : wr.drew.cell? ⟨bx, 3, none⟩ = some (.int .i64 a3) := x3
   have dd4 : wr.drew.cell? ⟨bx, 4, none⟩ = some (.int .i64 a4) := x4
   have dd5 : wr.drew.cell? ⟨bx, 5, none⟩ = some (.int .i64 a5) := x5
   have dd6 : wr.drew.cell? ⟨bx, 6, none⟩ = some (.int .i64 a6) := x6
   have dd7 : wr.drew.cell? ⟨bx, 7, none⟩ = some (.int .i64 a7) := x7
   have dd8 : wr.drew.cell? ⟨bx, 8, none⟩ = some (.int .i64 a8) := x8
   have dd9 : wr.drew.cell? ⟨bx, 9, none⟩ = some (.int .i64 a9) := x9
   have dd10 : wr.drew.cell? ⟨bx, 10, none⟩ = some (.int .i64 a10) := x10
   have dd11 : wr.drew.cell? ⟨bx, 11, none⟩ = some (.int .i64 a11) := x11
   have dd12 : wr.drew.cell? ⟨bx, 12, none⟩ = some (.int .i64 a12) := x12
   have dd13 : wr.drew.cell? (ad0.add (i.toNat * 2)) = some (.int .i64 nd) := y0
   refine start_ (n := 23) (S := fun w' => w'.cell? ⟨bx, 0, none⟩ = some (.slice (some ad0) P.length c0) ∧ w'.cell? ⟨bx, 1, none⟩ = some (.slice A1 L.length c1) ∧ w'.cell? ⟨bx, 2, none⟩ = some (.int .i64 a2) ∧ w'.cell? ⟨bx, 3, none⟩ = some (.int .i64 a3) ∧ w'.cell? ⟨bx, 4, none⟩ = some (.int .i64 a4) ∧ w'.cell? ⟨bx, 5, none⟩ = some (.int .i64 a5) ∧ w'.cell? ⟨bx, 6, none⟩ = some (.int .i64 a6) ∧ w'.cell? ⟨bx, 7, none⟩ = some (.int .i64 a7) ∧ w'.cell? ⟨bx, 8, none⟩ = some (.int .i64 a8) ∧ w'.cell? ⟨bx, 9, none⟩ = some (.int .i64 a9) ∧ w'.cell? ⟨bx, 10, none⟩ = some (.int .i64 a10) ∧ w'.cell? ⟨bx, 11, none⟩ = some (.int .i64 a11) ∧ w'.cell? ⟨bx, 12, none⟩ = some (.int .i64 a12) ∧ w'.cell? (ad0.add (i.toNat * 2)) = some (.int .i64 nd)) (ds := []) #[false, false, false, false, false, false, false, false, false, false, false, false, false, false, false, false, false, false, false, false, false, false, false] (by kernel_rfl) rfl rfl ⟨dd0, dd1, dd2, dd3, dd4, dd5, dd6, dd7, dd8, dd9, dd10, dd11, dd12, dd13⟩ (fun hHeld => ?_)
   refine pu 0 56 ?_
   refine pu 3 59 ?_
   refine pu 6 62 ?_
   refine pu 8 64 ?_
   refine pu 13 69 ?_
   refine pu 17 73 ?_
   refine pu 20 76 ?_
   refine tk14 1 57 ?_
   refine tk14 2 58 ?_
   refine tk14 7 63 ?_
   refine pu 9 65 ?_
   refine pu 10 66 ?_
   refine tk14 11 67 ?_
   refine tk14 14 70 ?_
   refine tk14 18 74 ?_
   refine tk14 21 77 ?_
   refine on 4 60 (fun K hK => ?_)
   refine goes_ Tryz.func84 (by kernel_rfl) rfl #[.agg #[.slice (some ad0) P.length c0, .slice A1 L.length c1, .int .i64 a2, .int .i64 a3, .int .i64 a4, .int .i64 a5, .int .i64 a6, .int .i64 a7, .int .i64 a8, .int .i64 a9, .int .i64 a10, .int .i64 a11, .int .i64 a12], .int .i64 i] (by rfl) rfl rfl lm ?_
   with_reducible refine (dr5_ports.calls 100 (some ad0) c0 P A1 c1 L a2 a3 a4 a5 a6 a7 a8 a9 a10 a11 a12 i p _ (Kd.C_below (Kd.C_below HR0.out HB.out) (Below.refl _ _).drew) HC0.out (Kd.C_below (Kd.C_below HR1.out HB.out) (Below.refl _ _).drew) HC1.out HP1.out).mono ?_
   rintro e w3 ⟨rfl, hb3⟩
   have HB3 := am (below_step HB.out.drew hb3)
   have HO3 := am ((hb3.block bx (blk_lt HO.out)).trans HO.out)
   have z0 := (hb3.cell (c_lt' dd0)).trans dd0
   have z1 := (hb3.cell (c_lt' dd1)).trans dd1
   have z2 := (hb3.cell (c_lt' dd2)).trans dd2
   have z3 := (hb3.cell (c_lt' dd3)).trans dd3
   have z4 := (hb3.cell (c_lt' dd4)).trans dd4
   have z5 := (hb3.cell (c_lt' dd5)).trans dd5
   have z6 := (hb3.cell (c_lt' dd6)).trans dd6
   have z7 := (hb3.cell (c_lt' dd7)).trans dd7
   have z8 := (hb3.cell (c_lt' dd8)).trans dd8
   have z9 := (hb3.cell (c_lt' dd9)).trans dd9
   have z10 := (hb3.cell (c_lt' dd10)).trans dd10
   have z11 := (hb3.cell (c_lt' dd11)).trans dd11
   have z12 := (hb3.cell (c_lt' dd12)).trans dd12
   have z13 := (hb3.cell (c_lt' dd13)).trans dd13
   clear hb3
   refine ⟨_, rfl, ?_⟩
   clear hHeld
   refine hK.out _ _ ⟨z0, z1, z2, z3, z4, z5, z6, z7, z8, z9, z10, z11, z12, z13⟩ (fun hHeld => ?_)
   clear hK K
   refine norm_ (a' := ?_) ?_ ?_
   rotate_left
   ·show Act.put _ (some 60) _ = _
    simp only [Act.put, sAa, sBb, sCc, i64_w, i32_w]
    rfl
   refine pu 5 61 ?_
   refine pu 12 68 ?_
   refine pu 15 71 ?_
   refine pu 16 72 ?_
   refine pu 19 75 ?_
   refine pu 22 78 ?_
   refine done_ (by kernel_rfl) ?_
   clear hHeld
   go_wp2_with fail
   go_roundg k1
   case measure => have := HK.out; omega
   case rel => exact ⟨i + 1, (by first | rfl | rw [m0]), ⟨by have := HK.out; omega⟩, HB3, HO3⟩
  ·have hlt : decide (i < (P.length : Int)) = false := dF hi1
   go_upto_region 14 with fail
   have m1 : wrap64 (a7 * a2) = a7 * a2 := by have := HFm.out; unfold wrap64; omega
   have m2 : wrap64 (j * 1000000) = j * 1000000 := by have := HF.out.j0; unfold wrap64; omega
   have t1 : decide (a7 * a2 < j * 1000000) = false := dF (by have := HF.out.j0; omega)
   have dd0 : wr.drew.cell? ⟨bx, 0, none⟩ = some (.slice A0 P.length c0) := x0
   have dd1 : wr.drew.cell? ⟨bx, 1, none⟩ = some (.slice A1 L.length c1) := x1
   have dd2 : wr.drew.cell? ⟨bx, 2, none⟩ = some (.int .i64 a2) := x2
   have dd3 : wr.drew.cell? ⟨bx, 3, none⟩ = some (.int .i64 a3) := x3
   have dd4 : wr.drew.cell? ⟨bx, 4, none⟩ = some (.int .i64 a4) := x4
   have dd5 : wr.drew.cell? ⟨bx, 5, none⟩ = some (.int .i64 a5) := x5
   have dd6 : wr.drew.cell? ⟨bx, 6, none⟩ = some (.int .i64 a6) := x6
   have dd7 : wr.drew.cell? ⟨bx, 7, none⟩ = some (.int .i64 a7) := x7
   have dd8 : wr.drew.cell? ⟨bx, 8, none⟩ = some (.int .i64 a8) := x8
   have dd9 : wr.drew.cell? ⟨bx, 9, none⟩ = some (.int .i64 a9) := x9
   have dd10 : wr.drew.cell? ⟨bx, 10, none⟩ = some (.int .i64 a10) := x10
   have dd11 : wr.drew.cell? ⟨bx, 11, none⟩ = some (.int .i64 a11) := x11
   have dd12 : wr.drew.cell? ⟨bx, 12, none⟩ = some (.int .i64 a12) := x12
   refine start_ (n := 10) (S := fun w' => w'.cell? ⟨bx, 0, none⟩ = some (.slice A0 P.length c0) ∧ w'.cell? ⟨bx, 1, none⟩ = some (.slice A1 L.length c1) ∧ w'.cell? ⟨bx, 2, none⟩ = some (.int .i64 a2) ∧ w'.cell? ⟨bx, 3, none⟩ = some (.int .i64 a3) ∧ w'.cell? ⟨bx, 4, none⟩ = some (.int .i64 a4) ∧ w'.cell? ⟨bx, 5, none⟩ = some (.int .i64 a5) ∧ w'.cell? ⟨bx, 6, none⟩ = some (.int .i64 a6) ∧ w'.cell? ⟨bx, 7, none⟩ = some (.int .i64 a7) ∧ w'.cell? ⟨bx, 8, none⟩ = some (.int .i64 a8) ∧ w'.cell? ⟨bx, 9, none⟩ = some (.int .i64 a9) ∧ w'.cell? ⟨bx, 10, none⟩ = some (.int .i64 a10) ∧ w'.cell? ⟨bx, 11, none⟩ = some (.int .i64 a11) ∧ w'.cell? ⟨bx, 12, none⟩ = some (.int .i64 a12)) (ds := []) #[false, false, false, false, false, false, false, false, false, false] (by kernel_rfl) rfl rfl ⟨dd0, dd1, dd2, dd3, dd4, dd5, dd6, dd7, dd8, dd9, dd10, dd11, dd12⟩ (fun hHeld => ?_)
   refine pu 0 80 ?_
   refine pu 2 82 ?_
   refine tk13 1 81 ?_
   refine tk13 3 83 ?_
   refine pu 4 84 ?_
   refine tk13 5 85 ?_
   refine on 6 86 (fun K hK => ?_)
   refine goes_ Tryz.func85 (by kernel_rfl) rfl #[.agg #[.slice A0 P.length c0, .slice A1 L.length c1, .int .i64 a2, .int .i64 a3, .int .i64 a4, .int .i64 a5, .int .i64 a6, .int .i64 a7, .int .i64 a8, .int .i64 a9, .int .i64 a10, .int .i64 a11, .int .i64 a12]] (by rfl) rfl rfl lm ?_
   with_reducible refine (dr5_jump.calls A0 c0 P A1 c1 L a2 a3 a4 a5 a6 a7 a8 a9 a10 a11 a12 j _ (Kd.C_below (Kd.C_below HR0.out HB.out) (Below.refl _ _).drew) HC0.out (Kd.C_below (Kd.C_below HR1.out HB.out) (Below.refl _ _).drew) HC1.out HF.out.hj).mono ?_
   rintro e w3 ⟨rfl, hb3⟩
   have HB3 := am (below_step HB.out.drew hb3)
   have HO3 := am ((hb3.block bx (blk_lt HO.out)).trans HO.out)
   have z0 := (hb3.cell (c_lt' dd0)).trans dd0
   have z1 := (hb3.cell (c_lt' dd1)).trans dd1
   have z2 := (hb3.cell (c_lt' dd2)).trans dd2
   have z3 := (hb3.cell (c_lt' dd3)).trans dd3
   have z4 := (hb3.cell (c_lt' dd4)).trans dd4
   have z5 := (hb3.cell (c_lt' dd5)).trans dd5
   have z6 := (hb3.cell (c_lt' dd6)).trans dd6
   have z7 := (hb3.cell (c_lt' dd7)).trans dd7
   have z8 := (hb3.cell (c_lt' dd8)).trans dd8
   have z9 := (hb3.cell (c_lt' dd9)).trans dd9
   have z10 := (hb3.cell (c_lt' dd10)).trans dd10
   have z11 := (hb3.cell (c_lt' dd11)).trans dd11
   have z12 := (hb3.cell (c_lt' dd12)).trans dd12
   clear hb3
   refine ⟨_, rfl, ?_⟩
   clear hHeld
   refine hK.out _ _ ⟨z0, z1, z2, z3, z4, z5, z6, z7, z8, z9, z10, z11, z12⟩ (fun hHeld => ?_)
   clear hK K
   refine norm_ (a' := ?_) ?_ ?_
   rotate_left
   ·show Act.put _ (some 86) _ = _
    simp only [Act.put, sAa, sBb, sCc, i64_w, i32_w]
    rfl
   refine pu 7 87 ?_
   refine pu 8 88 ?_
   refine pu 9 79 ?_
   refine done_ (by kernel_rfl) ?_
   clear hHeld
   clear dd0 dd1 dd2 dd3 dd4 dd5 dd6 dd7 dd8 dd9 dd10 dd11 dd12 z0 z1 z2 z3 z4 z5 z6 z7 z8 z9 z10 z11 z12
   clear x0 x1 x2 x3 x4 x5 x6 x7 x8 x9 x10 x11 x12
   clear HB HO
   have HB := HB3
   have HO := HO3
   clear HB3 HO3
   obtain ⟨x0, x1, x2, x3, x4, x5, x6, x7, x8, x9, x10, x11, x12⟩ := cellsK13 HO.out
   go_upto_region 16 with fail
   clear m1 m2 t1
   have m1 : wrap64 ((P.length : Int) - 1) = (P.length : Int) - 1 := by have := HF.out.p6; unfold wrap64; omega
   have m2 : wrap64 (a9 + 1) = a9 + 1 := by have := HF.out.qa9; unfold wrap64; omega
   have m3 : wrap64 (((P.length : Int) - 1) * (a9 + 1)) = ((P.length : Int) - 1) * (a9 + 1) := by have := HFm.out; unfold wrap64; omega
   have m4 : wrap64 (((P.length : Int) - 1) * (a9 + 1) + 1) = ((P.length : Int) - 1) * (a9 + 1) + 1 := by have := HFm.out; unfold wrap64; omega
   have t1 : decide (a8 < ((P.length : Int) - 1) * (a9 + 1) + 1) = false := dF (by have := HF.out.qa8; omega)
   go_upto_region 18 with fail
   clear m1 m2 m3 m4 t1
   have t2 : decide (a10 < q4) = false := dF (by have := HF.out.qa10; have := HQ4.out; omega)
   have t3 : decide (60000 < a10) = false := dF (by have := HF.out.qa10; omega)
   go_upto_region 20 with fail
   clear t2 t3
   have t4 : decide (a11 < q4) = false := dF (by have := HF.out.qa11; have := HQ4.out; omega)
   have t5 : decide (60000 < a11) = false := dF (by have := HF.out.qa11; omega)
   go_upto_region 22 with fail
   clear t4 t5
   have m5 : wrap64 ((P.length : Int) * a11) = (P.length : Int) * a11 := by have := HFm.out; unfold wrap64; omega
   have m6 : wrap64 (a10 + (P.length : Int) * a11) = a10 + (P.length : Int) * a11 := by have := HFm.out; have := HF.out.qa10; unfold wrap64; omega
   have t6 : decide (60000 < a10 + (P.length : Int) * a11) = false := dF (by have := HF.out.sp; omega)
   go_upto_region 24 with fail
   clear m5 m6 t6
   have m7 : wrap64 ((P.length : Int) + 2) = (P.length : Int) + 2 := by have := HF.out.p6; unfold wrap64; omega
   have t7 : decide (a12 < (P.length : Int) + 2) = false := dF (by have := HF.out.qa12; omega)
   have t8 : decide (64 < a12) = false := dF (by have := HF.out.qa12; omega)
   go_wp2_with fail
   go_ret
   exact ⟨rfl, HB.out⟩
set_option maxHeartbeats 4000000 in
theorem rfits_yes (A0 : Option Addr) (c0 : Nat) (P : List S68) (A1 : Option Addr) (c1 : Nat) (L : List S71) (a2 a3 a4 a5 a6 a7 a8 a9 a10 a11 a12 e j : Int) (w : World) (hr0 : Kd.C k68 w A0 P.length P) (hc0 : P.length ≤ c0) (hr1 : Kd.C k71 w A1 L.length L) (hc1 : L.length ≤ c1) (hf : FitsOk P L a2 a3 a4 a5 a6 a7 a8 a9 a10 a11 a12 e j) (hn : NetOk P L) (d : List Int) (hd : dr5_dists.f 100 P L a2 a3 a4 a5 a6 a7 a8 a9 a10 a11 a12 0 = some d) (hdp : ∀ x, x ∈ d → 0 ≤ x) (hdl : d.length ≤ 6) (hrg : rangeOk a2 a6 a7 a8 a9) :
  Calls Tryz.prog 62 #[.agg #[.slice A0 P.length c0, .slice A1 L.length c1, .int .i64 a2, .int .i64 a3, .int .i64 a4, .int .i64 a5, .int .i64 a6, .int .i64 a7, .int .i64 a8, .int .i64 a9, .int .i64 a10, .int .i64 a11, .int .i64 a12]] w fun e w' => e = .returned (.tuple #[.int .i64 0, .int .i64 0]) ∧ Below w.heap.size w w' := by
 have HN := am hn
 have HD := am (And.intro hd (And.intro hdp (And.intro hdl hrg)))
 clear hn hd hdp hdl hrg
 have HR0 := am hr0
 have HR1 := am hr1
 have HC0 := am hc0
 have HC1 := am hc1
 have HF := am hf
 clear hr0 hr1 hc0 hc1 hf
 go_enter Tryz.func62, Tryz.ntmps62
 go_upto_region 1 with fail
 have HO : Aside0 ((w.alloc (.cells #[.slice A0 P.length c0, .slice A1 L.length c1, .int .i64 a2, .int .i64 a3, .int .i64 a4, .int .i64 a5, .int .i64 a6, .int .i64 a7, .int .i64 a8, .int .i64 a9, .int .i64 a10, .int .i64 a11, .int .i64 a12] 25)).heap[w.heap.size]? = some (.cells #[.slice A0 P.length c0, .slice A1 L.length c1, .int .i64 a2, .int .i64 a3, .int .i64 a4, .int .i64 a5, .int .i64 a6, .int .i64 a7, .int .i64 a8, .int .i64 a9, .int .i64 a10, .int .i64 a11, .int .i64 a12] 25 (0, 0))) := ⟨heap_alloc_new w _⟩
 have HB := am (below_alloc (Below.refl w.heap.size w) (Obj.cells #[.slice A0 P.length c0, .slice A1 L.length c1, .int .i64 a2, .int .i64 a3, .int .i64 a4, .int .i64 a5, .int .i64 a6, .int .i64 a7, .int .i64 a8, .int .i64 a9, .int .i64 a10, .int .i64 a11, .int .i64 a12] 25))
 generalize w.alloc (.cells #[.slice A0 P.length c0, .slice A1 L.length c1, .int .i64 a2, .int .i64 a3, .int .i64 a4, .int .i64 a5, .int .i64 a6, .int .i64 a7, .int .i64 a8, .int .i64 a9, .int .i64 a10, .int .i64 a11, .int .i64 a12] 25) = wa at *
 obtain ⟨bx, hbx⟩ : ∃ bx, bx = w.heap.size := ⟨_, rfl⟩
 rw [← hbx]
 rw [← hbx] at HO
 clear hbx
 obtain ⟨x0, x1, x2, x3, x4, x5, x6, x7, x8, x9, x10, x11, x12⟩ := cellsK13 HO.out
 go_wp2_with fail
 clear x0 x1 x2 x3 x4 x5 x6 x7 x8 x9 x10 x11 x12
 refine (rcheck_yes A0 c0 P A1 c1 L a2 a3 a4 a5 a6 a7 a8 a9 a10 a11 a12 d _ (Kd.C_below HR0.out HB.out) HC0.out (Kd.C_below HR1.out HB.out) HC1.out HN.out HD.out.1 HD.out.2.1 HD.out.2.2.1).mono ?_
 rintro e w2 ⟨rfl, hb⟩
 have HB_ := am (below_step HB.out hb)
 have HO_ := am ((hb.block bx (blk_lt HO.out)).trans HO.out)
 clear HB HO
 have HB := HB_
 have HO := HO_
 clear HB_ HO_
 clear hb
 obtain ⟨x0, x1, x2, x3, x4, x5, x6, x7, x8, x9, x10, x11, x12⟩ := cellsK13 HO.out
 go_wp2_with fail
 clear x0 x1 x2 x3 x4 x5 x6 x7 x8 x9 x10 x11 x12
 refine (out_walk none none a2 a3 a4 a5 a6 a7 a8 a9 a10 a11 a12 A0 A1 _ _ c0 c1 _ HD.out.2.2.2).mono ?_
 rintro e w3 ⟨rfl, hb⟩
 have HB_ := am (below_step HB.out hb)
 have HO_ := am ((hb.block bx (blk_lt HO.out)).trans HO.out)
 clear HB HO
 have HB := HB_
 have HO := HO_
 clear HB_ HO_
 clear hb
 obtain ⟨x0, x1, x2, x3, x4, x5, x6, x7, x8, x9, x10, x11, x12⟩ := cellsK13 HO.out
 go_wp2_with fail
 clear x0 x1 x2 x3 x4 x5 x6 x7 x8 x9 x10 x11 x12
 refine (fits_yes A0 c0 P A1 c1 L a2 a3 a4 a5 a6 a7 a8 a9 a10 a11 a12 e j _ (Kd.C_below HR0.out HB.out) HC0.out (Kd.C_below HR1.out HB.out) HC1.out HF.out).mono ?_
 rintro e w4 ⟨rfl, hb⟩
 have HB_ := am (below_step HB.out hb)
 have HO_ := am ((hb.block bx (blk_lt HO.out)).trans HO.out)
 clear HB HO
 have HB := HB_
 have HO := HO_
 clear HB_ HO_
 clear hb
 obtain ⟨x0, x1, x2, x3, x4, x5, x6, x7, x8, x9, x10, x11, x12⟩ := cellsK13 HO.out
 go_wp2_with fail
 go_ret2
 exact ⟨rfl, HB.out⟩
set_option maxHeartbeats 4000000 in
theorem fit_yes (A0 : Option Addr) (c0 : Nat) (P : List S68) (A1 : Option Addr) (c1 : Nat) (L : List S71) (a2 a3 a4 a5 a6 a7 a8 a9 a10 a11 a12 e j : Int) (w : World) (hr0 : Kd.C k68 w A0 P.length P) (hc0 : P.length ≤ c0) (hr1 : Kd.C k71 w A1 L.length L) (hc1 : L.length ≤ c1) (hf : FitsOk P L a2 a3 a4 a5 a6 a7 a8 a9 a10 a11 a12 e j) (hn : NetOk P L) (d : List Int) (hd : dr5_dists.f 100 P L a2 a3 a4 a5 a6 a7 a8 a9 a10 a11 a12 0 = some d) (hdp : ∀ x, x ∈ d → 0 ≤ x) (hdl : d.length ≤ 6) (hrg : rangeOk a2 a6 a7 a8 a9) (part : Int) (hp0 : 0 ≤ part) (hp1 : part < P.length) :
  Calls Tryz.prog 44 #[.agg #[.slice A0 P.length c0, .slice A1 L.length c1, .int .i64 a2, .int .i64 a3, .int .i64 a4, .int .i64 a5, .int .i64 a6, .int .i64 a7, .int .i64 a8, .int .i64 a9, .int .i64 a10, .int .i64 a11, .int .i64 a12], .int .i64 part] w fun e w' => e = .returned (.bool true) ∧ Below w.heap.size w w' := by
 have HPT := am (And.intro hp0 hp1)
 clear hp0 hp1
 have HN := am hn
 have HD := am (And.intro hd (And.intro hdp (And.intro hdl hrg)))
 clear hn hd hdp hdl hrg
 have HR0 := am hr0
 have HR1 := am hr1
 have HC0 := am hc0
 have HC1 := am hc1
 have HF := am hf
 clear hr0 hr1 hc0 hc1 hf
 go_enter Tryz.func44, Tryz.ntmps44
 go_upto_region 1 with fail
 have HO : Aside0 ((w.alloc (.cells #[.slice A0 P.length c0, .slice A1 L.length c1, .int .i64 a2, .int .i64 a3, .int .i64 a4, .int .i64 a5, .int .i64 a6, .int .i64 a7, .int .i64 a8, .int .i64 a9, .int .i64 a10, .int .i64 a11, .int .i64 a12] 25)).heap[w.heap.size]? = some (.cells #[.slice A0 P.length c0, .slice A1 L.length c1, .int .i64 a2, .int .i64 a3, .int .i64 a4, .int .i64 a5, .int .i64 a6, .int .i64 a7, .int .i64 a8, .int .i64 a9, .int .i64 a10, .int .i64 a11, .int .i64 a12] 25 (0, 0))) := ⟨heap_alloc_new w _⟩
 have HB := am (below_alloc (Below.refl w.heap.size w) (Obj.cells #[.slice A0 P.length c0, .slice A1 L.length c1, .int .i64 a2, .int .i64 a3, .int .i64 a4, .int .i64 a5, .int .i64 a6, .int .i64 a7, .int .i64 a8, .int .i64 a9, .int .i64 a10, .int .i64 a11, .int .i64 a12] 25))
 generalize w.alloc (.cells #[.slice A0 P.length c0, .slice A1 L.length c1, .int .i64 a2, .int .i64 a3, .int .i64 a4, .int .i64 a5, .int .i64 a6, .int .i64 a7, .int .i64 a8, .int .i64 a9, .int .i64 a10, .int .i64 a11, .int .i64 a12] 25) = wa at *
 obtain ⟨bx, hbx⟩ : ∃ bx, bx = w.heap.size := ⟨_, rfl⟩
 rw [← hbx]
 rw [← hbx] at HO
 clear hbx
 obtain ⟨x0, x1, x2, x3, x4, x5, x6, x7, x8, x9, x10, x11, x12⟩ := cellsK13 HO.out
 go_wp2_with fail
 clear x0 x1 x2 x3 x4 x5 x6 x7 x8 x9 x10 x11 x12
 refine (rfits_yes A0 c0 P A1 c1 L a2 a3 a4 a5 a6 a7 a8 a9 a10 a11 a12 e j _ (Kd.C_below HR0.out HB.out) HC0.out (Kd.C_below HR1.out HB.out) HC1.out HF.out HN.out d HD.out.1 HD.out.2.1 HD.out.2.2.1 HD.out.2.2.2).mono ?_
 rintro e w2 ⟨rfl, hb⟩
 have HB_ := am (below_step HB.out hb)
 have HO_ := am ((hb.block bx (blk_lt HO.out)).trans HO.out)
 clear HB HO
 have HB := HB_
 have HO := HO_
 clear HB_ HO_
 clear hb
 obtain ⟨x0, x1, x2, x3, x4, x5, x6, x7, x8, x9, x10, x11, x12⟩ := cellsK13 HO.out
 go_wp2_with fail
 clear x0 x1 x2 x3 x4 x5 x6 x7 x8 x9 x10 x11 x12
 refine (is_yes part _ _ HPT.out.1 HPT.out.2).mono ?_
 rintro e w3 ⟨rfl, hb⟩
 have HB3 := am (below_step HB.out hb)
 clear hb
 go_wp2_with fail
 go_ret
 exact ⟨rfl, HB3.out⟩
def fitsC (P : List S68) (L : List S71) (a2 a3 a4 a5 a6 a7 a8 a9 a10 a11 a12 e j : Int) : Bool :=
 decide (1 ≤ P.length ∧ P.length ≤ 6 ∧ L.length ≤ 10 ∧ (0 ≤ e ∧ 3 * e ≤ a5) ∧ a5 ≤ 20000 ∧ (2 * a5 + 1 ≤ a4 ∧ a4 ≤ 1000000) ∧ (a5 ≤ a3 ∧ a3 ≤ 1000000) ∧ (0 ≤ a2 ∧ a2 ≤ 1000000) ∧ (0 ≤ j ∧ j ≤ 1000000000 ∧ j * 1000000 ≤ a7 * a2) ∧ (0 ≤ a7 ∧ a7 ≤ 400000) ∧ (0 ≤ a9 ∧ a9 ≤ 20) ∧ (P.length - 1) * (a9 + 1) + 1 ≤ a8 ∧ (P.length * (a9 + 1) + 2 ≤ a10 ∧ a10 ≤ 60000) ∧ (P.length * (a9 + 1) + 2 ≤ a11 ∧ a11 ≤ 60000) ∧ a10 + P.length * a11 ≤ 60000 ∧ P.length + 2 ≤ a12 ∧ a12 ≤ 64)
 && (List.range P.length).all fun i => match dr5_ports.f 100 P L a2 a3 a4 a5 a6 a7 a8 a9 a10 a11 a12 (i : Int) with
  | some p => decide (0 ≤ p ∧ p ≤ 100 ∧ 0 ≤ (rd_T68 P (i : Int)).f0 ∧ (rd_T68 P (i : Int)).f0 ≤ 100 ∧ a3 + (3 * p + (rd_T68 P (i : Int)).f0) * a4 + a5 ≤ a2)
  | none => false
theorem fitsC_ok {P : List S68} {L : List S71} {a2 a3 a4 a5 a6 a7 a8 a9 a10 a11 a12 e j : Int} (h : fitsC P L a2 a3 a4 a5 a6 a7 a8 a9 a10 a11 a12 e j = true) (he : dr5_edge.f P L a2 a3 a4 a5 a6 a7 a8 a9 a10 a11 a12 = some e) (hj : dr5_jump.f P L a2 a3 a4 a5 a6 a7 a8 a9 a10 a11 a12 = some j) : FitsOk P L a2 a3 a4 a5 a6 a7 a8 a9 a10 a11 a12 e j := by
 unfold fitsC at h
 rw [Bool.and_eq_true, decide_eq_true_eq, List.all_eq_true] at h
 obtain ⟨⟨h1, h2, h3, h4, h5, h6, h7, h8, h9, h10, h11, h12, h13, h14, h15, h16⟩, hp⟩ := h
 refine ⟨h1, h2, h3, he, hj, h4, h5, h6, h7, h8, ?_, h9, h10, h11, h12, h13, h14, h15, h16⟩
 intro i hi0 hi1
 obtain ⟨n, rfl⟩ := Int.eq_ofNat_of_zero_le hi0
 have := hp n (List.mem_range.2 (by omega))
 cases hq : dr5_ports.f 100 P L a2 a3 a4 a5 a6 a7 a8 a9 a10 a11 a12 (n : Int) with
 | none => rw [hq] at this; cases this
 | some p => rw [hq] at this; exact ⟨p, rfl, oT this⟩
end Go.Proofs.YtbefbhghmommhaaGreatDoor.MWo
