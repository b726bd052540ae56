/- Texts of this claim, laid together by a program (wip/g/merge5.py): HBr, PuBs, MWox87, MWox88, MWox89, MWox90. -/
import Derived.Test.YtbefbhghmommhaaGreatDoorZWd11
import Derived.Test.YtbefbhghmommhaaGreatDoorZWd25
import Derived.Test.YtbefbhghmommhaaGreatDoorZWd4
import Derived.Test.YtbefbhghmommhaaGreatDoorZWd17
set_option linter.unusedVariables false
set_option linter.unusedSimpArgs false
set_option maxRecDepth 100000
namespace Go.Proofs.YtbefbhghmommhaaGreatDoor.MWo
open Go.RowKit Go.Proofs.YtbefbhghmommhaaGreatDoorW.PrintWords Go.Proofs.YtbefbhghmommhaaGreatDoorW.PrintLast Go.Proofs.YtbefbhghmommhaaGreatDoorW.PrintMore Go.Proofs.YtbefbhghmommhaaGreatDoor.Evl
def rbBad (r cy rt f : Int) : Bool := decide (rt < 0) || (decide (0 ≤ r) && ((rt != r) || (f != cy)))
def rbN (g : Int) : Int → Int → List S55 → Option (Int × Int)
 | r, cy, [] => some (r, cy)
 | r, cy, x :: t => if rbBad r cy (Rt.root x.f5 g) x.f4 = true then none else rbN g (Rt.root x.f5 g) x.f4 t
def rbC (g : Int) : Int → Int → List S37 → Int × Bool
 | r, _, [] => (r, decide (0 ≤ r))
 | r, cy, x :: t => if (syn x.f0).isEmpty = true then (-1, false) else match rbN g r cy (syn x.f0) with
  | none => (-1, false)
  | some s => rbC g s.1 s.2 t
def rbK (g : Int) (t : List S37) : Option (Int × Int) → Int × Bool
 | none => (-1, false)
 | some s => rbC g s.1 s.2 t
set_option maxHeartbeats 8000000 in
theorem rbase_walk (A0 : Option Addr) (c0 : Nat) (P : List S68) (A1 : Option Addr) (c1 : Nat) (L : List S71) (a2 a3 a4 a5 a6 a7 a8 a9 a10 a11 a12 : Int) (A : Option Addr) (c : Nat) (l : List S37) (g : Int) (w : World) (hN : NetAt w P A0 c0 L A1 c1) (hC : Kd.C k37 w A l.length l) (hl : l.length ≤ 1000) (hx : ∀ x ∈ l, x.f0.length ≤ 1000 ∧ x.f1.f2.length ≤ 1000000)
  (hG : ∀ W : World, NetAt W P A0 c0 L A1 c1 → Calls Tryz.prog 30 #[.agg #[.slice A0 P.length c0, .slice A1 L.length c1, .int .i64 a2, .int .i64 a3, .int .i64 a4, .int .i64 a5, .int .i64 a6, .int .i64 a7, .int .i64 a8, .int .i64 a9, .int .i64 a10, .int .i64 a11, .int .i64 a12]] W fun e w' => e = .returned (.int .i64 g) ∧ Below W.heap.size W w') :
  Calls Tryz.prog 10 #[.agg #[.slice A0 P.length c0, .slice A1 L.length c1, .int .i64 a2, .int .i64 a3, .int .i64 a4, .int .i64 a5, .int .i64 a6, .int .i64 a7, .int .i64 a8, .int .i64 a9, .int .i64 a10, .int .i64 a11, .int .i64 a12], .slice A l.length c] w fun e w' => e = .returned (.tuple #[.int .i64 (rbC g (-1) 0 l).1, .bool (rbC g (-1) 0 l).2]) ∧ Below w.heap.size w w' := by
 have HN := am hN
 have HC := am hC
 have HL := am hl
 have HX := am hx
 have HG := am hG
 clear hN hC hl hx hG
 obtain ⟨R, hR⟩ : ∃ R, rbC g (-1) 0 l = R := ⟨_, rfl⟩
 have HR : Aside0 (rbC g (-1) 0 (l.drop 0) = R) := ⟨hR⟩
 rw [hR]
 clear hR
 have BC := am (heap_alloc_new w (.cells #[.slice A0 P.length c0, .slice A1 L.length c1, .int .i64 a2, .int .i64 a3, .int .i64 a4, .int .i64 a5, .int .i64 a6, .int .i64 a7, .int .i64 a8, .int .i64 a9, .int .i64 a10, .int .i64 a11, .int .i64 a12] 25))
 have HB := am (below_alloc (Below.refl w.heap.size w) (.cells #[.slice A0 P.length c0, .slice A1 L.length c1, .int .i64 a2, .int .i64 a3, .int .i64 a4, .int .i64 a5, .int .i64 a6, .int .i64 a7, .int .i64 a8, .int .i64 a9, .int .i64 a10, .int .i64 a11, .int .i64 a12] 25))
 go_enter Tryz.func10, Tryz.ntmps10
 go_wp2_with fail
 generalize w.alloc (.cells #[.slice A0 P.length c0, .slice A1 L.length c1, .int .i64 a2, .int .i64 a3, .int .i64 a4, .int .i64 a5, .int .i64 a6, .int .i64 a7, .int .i64 a8, .int .i64 a9, .int .i64 a10, .int .i64 a11, .int .i64 a12] 25) = w1 at *
 obtain ⟨bC, hbC⟩ : ∃ bC, bC = w.heap.size := ⟨_, rfl⟩
 rw [← hbC] at BC
 rw [← hbC]
 clear hbC
 go_loopg [6, 7, 8] (l.length + 1) (fun kq v6 v7 v8 wr => ∃ (k : Nat) (r cy : Int), v8 = .int .i64 k ∧ v6 = .int .i64 r ∧ v7 = .int .i64 cy ∧ Aside0 (kq + k = l.length + 1 ∧ k ≤ l.length) ∧ Aside0 (rbC g r cy (l.drop k) = R) ∧ Aside0 (Below w.heap.size w wr) ∧ Aside0 (wr.heap[bC]? = some (.cells #[.slice A0 P.length c0, .slice A1 L.length c1, .int .i64 a2, .int .i64 a3, .int .i64 a4, .int .i64 a5, .int .i64 a6, .int .i64 a7, .int .i64 a8, .int .i64 a9, .int .i64 a10, .int .i64 a11, .int .i64 a12] 25 (0, 0))))
 case atStart => exact ⟨0, -1, 0, rfl, rfl, rfl, ⟨by omega⟩, HR, HB, BC⟩
 case round =>
  clear HB BC HR
  obtain ⟨k, r, cy, rfl, rfl, rfl, HK, HR, HB, BC⟩ := hrel
  cases gk with
  | zero => exact absurd HK.out (by omega)
  | succ k1 =>
  have hlL := HL.out
  by_cases hk : k < l.length
  ·have d1 : decide (k < l.length) = true := dT hk
   have HLK := am hlL
   obtain ⟨ad, Ai, ci, Aj, cj, e, y0, y1, y2, y3, hc5, hC5, hc6, hC6⟩ := at_T37 HC.out (k : Int) (by omega) (by omega)
   cases e
   have hrd : rd_T37 l (k : Int) = l[k] := by simp [rd_T37, hk]
   have hy : l[k] ∈ l := List.getElem_mem hk
   rw [hrd] at y0 y1 y2 y3 hc5 hC5 hc6 hC6
   have HXk := am (HX.out _ hy)
   have hdr := List.drop_eq_getElem_cons hk
   obtain ⟨y, hyy⟩ : ∃ y, y = l[k] := ⟨_, rfl⟩
   rw [← hyy] at y0 y1 y2 y3 hc5 hC5 hc6 hC6 HXk hdr
   rw [hdr] at HR
   have H5 := am (And.intro (And.intro hC5 hc5) (And.intro hC6 hc6))
   simp only [Int.toNat_natCast] at y0 y1 y2 y3
   have z0 := (HB.out.cell (c_lt y0)).trans y0
   have z1 := (HB.out.cell (c_lt y1)).trans y1
   have z2 := (HB.out.cell (c_lt y2)).trans y2
   have z3 := (HB.out.cell (c_lt y3)).trans y3
   clear y0 y1 y2 y3 hc5 hC5 hc6 hC6 hy hrd hdr hyy
   go_wp2_with fail
   refine (rsynced_walk Ai ci y.f0 y.f1.f0 y.f1.f1 Aj cj y.f1.f2 wr (Kd.C_below H5.out.1.1 HB.out) H5.out.1.2 (Kd.C_below H5.out.2.1 HB.out) H5.out.2.2 HXk.out.1).mono ?_
   rintro e w3 ⟨A9, c9, rfl, hc9, hC9, hb⟩
   have HB_ := am (below_step HB.out hb)
   have BC_ := am ((hb.block bC (blk_lt BC.out)).trans BC.out)
   clear HB BC
   have HB := HB_
   have BC := BC_
   clear HB_ BC_
   clear hb z0 z1 z2 z3 d1
   have hsl := Nat.le_trans (syn_len y.f0) HXk.out.1
   have HR2 : Aside0 ((if (syn y.f0).isEmpty = true then (-1, false) else rbK g (l.drop (k + 1)) (rbN g r cy (syn y.f0))) = R) := ⟨by rw [← HR.out]; show _ = (if (syn y.f0).isEmpty = true then _ else _); cases rbN g r cy (syn y.f0) <;> rfl⟩
   clear HR
   generalize syn y.f0 = s at *
   have HS9 := am (And.intro hC9 hc9)
   have HSL := am hsl
   clear hC9 hc9 hsl
   by_cases he : s = []
   ·have e0 : ((s.length : Int) == 0) = true := by simp [he]
    have HR3 : Aside0 (((-1 : Int), false) = R) := ⟨by rw [← HR2.out, he]; rfl⟩
    clear he
    go_wp2_with fail
    go_ret2
    refine ⟨?_, HB.out⟩
    rw [← HR3.out]
    rfl
   ·have e0 : ((s.length : Int) == 0) = false := by have := List.length_pos_iff.2 he; exact beq_eq_false_iff_ne.mpr (by omega)
    have HR3 : Aside0 (rbK g (l.drop (k + 1)) (rbN g r cy (s.drop 0)) = R) := ⟨by rw [← HR2.out]; cases s with
     | nil => exact absurd rfl he
     | cons _ _ => rfl⟩
    clear he HR2
    go_wp2_with fail
    clear e0
    have hkk := hk
    clear hk
    go_loopg [6, 7, 10, 11] (s.length + 1) (fun kq v6 v7 v10 _ wr => ∃ (j : Nat) (r cy : Int), v10 = .int .i64 j ∧ v6 = .int .i64 r ∧ v7 = .int .i64 cy ∧ Aside0 (kq + j = s.length + 1 ∧ j ≤ s.length) ∧ Aside0 (rbK g (l.drop (k + 1)) (rbN g r cy (s.drop j)) = R) ∧ Aside0 (Below w.heap.size w wr ∧ Below w3.heap.size w3 wr) ∧ Aside0 (wr.heap[bC]? = some (.cells #[.slice A0 P.length c0, .slice A1 L.length c1, .int .i64 a2, .int .i64 a3, .int .i64 a4, .int .i64 a5, .int .i64 a6, .int .i64 a7, .int .i64 a8, .int .i64 a9, .int .i64 a10, .int .i64 a11, .int .i64 a12] 25 (0, 0))))
    case atStart => exact ⟨0, r, cy, rfl, rfl, rfl, ⟨by omega⟩, HR3, ⟨HB.out, Below.refl _ _⟩, BC⟩
    case round =>
     clear HB BC HR3
     obtain ⟨j, r, cy, rfl, rfl, rfl, HJ, HR, HBB, BC⟩ := hrel
     have HB := am HBB.out.1
     have HB3 := am HBB.out.2
     clear HBB
     cases gk with
     | zero => exact absurd HJ.out (by omega)
     | succ k2 =>
     have hsL := HSL.out
     by_cases hj : j < s.length
     ·have d1 : decide (j < s.length) = true := dT hj
      obtain ⟨ad9, A5, c5, e, _, _, _, _, y4, y5, _, _, hc5, hC5⟩ := at_T55 (Kd.C_below HS9.out.1 HB3.out) (j : Int) (by omega) (by omega)
      cases e
      have hrd : rd_T55 s (j : Int) = s[j] := by simp [rd_T55, hj]
      have hdr := List.drop_eq_getElem_cons hj
      rw [hrd] at y4 y5 hc5 hC5
      generalize s[j] = z at *
      rw [hdr] at HR
      simp only [Int.toNat_natCast] at y4 y5
      have HD5 := am (And.intro hC5 hc5)
      obtain ⟨kr, hkr⟩ := (Rt.rroot_evl z.f5 g).some_
      have HKR := am hkr
      have HR2 : Aside0 ((if rbBad r cy (Rt.root z.f5 g) z.f4 = true then (-1, false) else rbK g (l.drop (k + 1)) (rbN g (Rt.root z.f5 g) z.f4 (s.drop (j + 1)))) = R) := ⟨by rw [← HR.out]; show _ = rbK g _ (if rbBad r cy (Rt.root z.f5 g) z.f4 = true then none else _); cases rbBad r cy (Rt.root z.f5 g) z.f4 <;> rfl⟩
      clear hrd hdr HR hC5 hc5 hkr
      generalize Rt.root z.f5 g = rt at *
      obtain ⟨n0, n1, n2, n3, n4, n5, n6, n7, n8, n9, n10, n11, n12⟩ := cellsK13 BC.out
      go_upto_region 11 with fail
      have dd0 : wr.drew.cell? ⟨bC, 0, none⟩ = some (.slice A0 P.length c0) := n0
      have dd1 : wr.drew.cell? ⟨bC, 1, none⟩ = some (.slice A1 L.length c1) := n1
      have dd2 : wr.drew.cell? ⟨bC, 2, none⟩ = some (.int .i64 a2) := n2
      have dd3 : wr.drew.cell? ⟨bC, 3, none⟩ = some (.int .i64 a3) := n3
      have dd4 : wr.drew.cell? ⟨bC, 4, none⟩ = some (.int .i64 a4) := n4
      have dd5 : wr.drew.cell? ⟨bC, 5, none⟩ = some (.int .i64 a5) := n5
      have dd6 : wr.drew.cell? ⟨bC, 6, none⟩ = some (.int .i64 a6) := n6
      have dd7 : wr.drew.cell? ⟨bC, 7, none⟩ = some (.int .i64 a7) := n7
      have dd8 : wr.drew.cell? ⟨bC, 8, none⟩ = some (.int .i64 a8) := n8
      have dd9 : wr.drew.cell? ⟨bC, 9, none⟩ = some (.int .i64 a9) := n9
      have dd10 : wr.drew.cell? ⟨bC, 10, none⟩ = some (.int .i64 a10) := n10
      have dd11 : wr.drew.cell? ⟨bC, 11, none⟩ = some (.int .i64 a11) := n11
      have dd12 : wr.drew.cell? ⟨bC, 12, none⟩ = some (.int .i64 a12) := n12
      have dd13 : wr.drew.cell? ⟨(ad9.add (j * 8)).block, (ad9.add (j * 8)).off + 5, none⟩ = some (.slice A5 z.f5.length c5) := y5
      have dd14 : wr.drew.cell? ⟨(ad9.add (j * 8)).block, (ad9.add (j * 8)).off + 4, none⟩ = some (.int .i64 z.f4) := y4
      refine start_ (n := 9) (S := fun w' => w'.cell? ⟨bC, 0, none⟩ = some (.slice A0 P.length c0) ∧ w'.cell? ⟨bC, 1, none⟩ = some (.slice A1 L.length c1) ∧ w'.cell? ⟨bC, 2, none⟩ = some (.int .i64 a2) ∧ w'.cell? ⟨bC, 3, none⟩ = some (.int .i64 a3) ∧ w'.cell? ⟨bC, 4, none⟩ = some (.int .i64 a4) ∧ w'.cell? ⟨bC, 5, none⟩ = some (.int .i64 a5) ∧ w'.cell? ⟨bC, 6, none⟩ = some (.int .i64 a6) ∧ w'.cell? ⟨bC, 7, none⟩ = some (.int .i64 a7) ∧ w'.cell? ⟨bC, 8, none⟩ = some (.int .i64 a8) ∧ w'.cell? ⟨bC, 9, none⟩ = some (.int .i64 a9) ∧ w'.cell? ⟨bC, 10, none⟩ = some (.int .i64 a10) ∧ w'.cell? ⟨bC, 11, none⟩ = some (.int .i64 a11) ∧ w'.cell? ⟨bC, 12, none⟩ = some (.int .i64 a12) ∧ w'.cell? ⟨(ad9.add (j * 8)).block, (ad9.add (j * 8)).off + 5, none⟩ = some (.slice A5 z.f5.length c5) ∧ w'.cell? ⟨(ad9.add (j * 8)).block, (ad9.add (j * 8)).off + 4, none⟩ = some (.int .i64 z.f4)) (ds := []) #[false, false, false, false, false, false, false, false, false] (by kernel_rfl) rfl rfl ⟨dd0, dd1, dd2, dd3, dd4, dd5, dd6, dd7, dd8, dd9, dd10, dd11, dd12, dd13, dd14⟩ (fun hHeld => ?_)
      refine pu 0 32 ?_
      refine pu 1 33 ?_
      refine pu 2 34 ?_
      refine pu 3 35 ?_
      refine tk15 4 36 ?_
      refine tk15 5 37 ?_
      refine on 6 38 (fun K hK => ?_)
      refine goes_ Tryz.func30 (by kernel_rfl) rfl #[.agg #[.slice A0 P.length c0, .slice A1 L.length c1, .int .i64 a2, .int .i64 a3, .int .i64 a4, .int .i64 a5, .int .i64 a6, .int .i64 a7, .int .i64 a8, .int .i64 a9, .int .i64 a10, .int .i64 a11, .int .i64 a12]] (by rfl) rfl rfl lm ?_
      with_reducible refine (HG.out _ (HN.out.below HB.out.drew)).mono ?_
      rintro e w11 ⟨rfl, hb11⟩
      have HB11 := am (below_step HB.out.drew hb11)
      have BC11 := am ((hb11.block bC (blk_lt BC.out)).trans (blk_drew BC.out))
      have H311 := am (below_step HB3.out.drew hb11)
      have HW11 := am (below_step (Below.refl wr.heap.size wr).drew hb11)
      have q0 := (hb11.cell (c_lt dd0)).trans dd0
      have q1 := (hb11.cell (c_lt dd1)).trans dd1
      have q2 := (hb11.cell (c_lt dd2)).trans dd2
      have q3 := (hb11.cell (c_lt dd3)).trans dd3
      have q4 := (hb11.cell (c_lt dd4)).trans dd4
      have q5 := (hb11.cell (c_lt dd5)).trans dd5
      have q6 := (hb11.cell (c_lt dd6)).trans dd6
      have q7 := (hb11.cell (c_lt dd7)).trans dd7
      have q8 := (hb11.cell (c_lt dd8)).trans dd8
      have q9 := (hb11.cell (c_lt dd9)).trans dd9
      have q10 := (hb11.cell (c_lt dd10)).trans dd10
      have q11 := (hb11.cell (c_lt dd11)).trans dd11
      have q12 := (hb11.cell (c_lt dd12)).trans dd12
      have q13 := (hb11.cell (c_lt dd13)).trans dd13
      have q14 := (hb11.cell (c_lt dd14)).trans dd14
      clear hb11
      refine ⟨_, rfl, ?_⟩
      clear hHeld
      refine hK.out _ _ ⟨q0, q1, q2, q3, q4, q5, q6, q7, q8, q9, q10, q11, q12, q13, q14⟩ (fun hHeld => ?_)
      clear hK K
      refine norm_ (a' := ?_) ?_ ?_
      rotate_left
      ·show Act.put _ (some 38) _ = _
       simp only [Act.put, sAa, sBb, sCc, i64_w, i32_w]
       rfl
      refine on 7 39 (fun K hK => ?_)
      refine goes_ Tryz.func29 (by kernel_rfl) rfl #[.slice A5 z.f5.length c5, .int .i64 g] (by rfl) rfl rfl lm ?_
      with_reducible refine (dr10_Root.calls kr A5 c5 z.f5 g rt _ (Kd.C_below HD5.out.1 HW11.out) HD5.out.2 HKR.out).mono ?_
      rintro e w12 ⟨rfl, hb12⟩
      have HB12 := am (below_step HB11.out hb12)
      have BC12 := am ((hb12.block bC (blk_lt BC11.out)).trans BC11.out)
      have H312 := am (below_step H311.out hb12)
      have r0 := (hb12.cell (c_lt q0)).trans q0
      have r1 := (hb12.cell (c_lt q1)).trans q1
      have r2 := (hb12.cell (c_lt q2)).trans q2
      have r3 := (hb12.cell (c_lt q3)).trans q3
      have r4 := (hb12.cell (c_lt q4)).trans q4
      have r5 := (hb12.cell (c_lt q5)).trans q5
      have r6 := (hb12.cell (c_lt q6)).trans q6
      have r7 := (hb12.cell (c_lt q7)).trans q7
      have r8 := (hb12.cell (c_lt q8)).trans q8
      have r9 := (hb12.cell (c_lt q9)).trans q9
      have r10 := (hb12.cell (c_lt q10)).trans q10
      have r11 := (hb12.cell (c_lt q11)).trans q11
      have r12 := (hb12.cell (c_lt q12)).trans q12
      have r13 := (hb12.cell (c_lt q13)).trans q13
      have r14 := (hb12.cell (c_lt q14)).trans q14
      clear hb12
      refine ⟨_, rfl, ?_⟩
      clear hHeld
      refine hK.out _ _ ⟨r0, r1, r2, r3, r4, r5, r6, r7, r8, r9, r10, r11, r12, r13, r14⟩ (fun hHeld => ?_)
      clear hK K
      refine norm_ (a' := ?_) ?_ ?_
      rotate_left
      ·show Act.put _ (some 39) _ = _
       simp only [Act.put, sAa, sBb, sCc, i64_w, i32_w]
       rfl
      refine pu 8 11 ?_
      refine done_ (by kernel_rfl) ?_
      clear hHeld
      have x4 := r14
      clear dd0 q0 r0 dd1 q1 r1 dd2 q2 r2 dd3 q3 r3 dd4 q4 r4 dd5 q5 r5 dd6 q6 r6 dd7 q7 r7 dd8 q8 r8 dd9 q9 r9 dd10 q10 r10 dd11 q11 r11 dd12 q12 r12 dd13 q13 r13 dd14 q14 r14
      clear n0 n1 n2 n3 n4 n5 n6 n7 n8 n9 n10 n11 n12 y4 y5 HB BC HB3 HB11 BC11 H311
      have HB := HB12
      have BC := BC12
      have HB3 := H312
      clear HB12 BC12 H312
      go_upto_region 12 with fail
      go_cut [59] (fun s59 wx => s59 = .bool (rbBad r cy rt z.f4) ∧ wx = w12)
      case first =>
       have hbe : rbBad r cy rt z.f4 = (decide (rt < 0) || (decide (0 ≤ r) && ((rt != r) || (z.f4 != cy)))) := rfl
       have HBE := am hbe
       clear hbe
       by_cases h1 : rt < 0
       ·have b1 : decide (rt < 0) = true := dT h1
        go_wp2_with fail
        go_meet
        exact ⟨by rw [HBE.out, b1]; rfl, rfl⟩
       ·have b1 : decide (rt < 0) = false := dF h1
        by_cases h2 : 0 ≤ r
        ·have b2 : decide (0 ≤ r) = true := dT h2
         by_cases h3 : rt = r
         ·have b3 : (rt != r) = false := by simp [h3]
          clear h3
          by_cases h4 : z.f4 = cy
          ·have b4 : (z.f4 != cy) = false := by simp [h4]
           clear h4
           go_wp2_with fail
           go_meet
           exact ⟨by rw [HBE.out, b1, b2, b3, b4]; rfl, rfl⟩
          ·have b4 : (z.f4 != cy) = true := by simp [h4]
           go_wp2_with fail
           go_meet
           exact ⟨by rw [HBE.out, b1, b2, b3, b4]; rfl, rfl⟩
         ·have b3 : (rt != r) = true := by simp [h3]
          go_wp2_with fail
          go_meet
          exact ⟨by rw [HBE.out, b1, b2, b3]; rfl, rfl⟩
        ·have b2 : decide (0 ≤ r) = false := dF h2
         go_wp2_with fail
         go_meet
         exact ⟨by rw [HBE.out, b1, b2]; rfl, rfl⟩
      case rest =>
       obtain ⟨rfl, rfl⟩ := hcut
       cases hbd : rbBad r cy rt z.f4 with
       | true =>
        rw [hbd] at HR2
        go_wp2_with fail
        go_ret2
        refine ⟨?_, HB.out⟩
        rw [← HR2.out]
        rfl
       | false =>
        rw [hbd] at HR2
        have HRn : Aside0 (rbK g (l.drop (k + 1)) (rbN g rt z.f4 (s.drop (j + 1))) = R) := ⟨HR2.out⟩
        clear HR2
        go_wp2_with fail
        go_quiet (fail)
        go_wp2_with fail
        go_roundg k2
        case measure => have := HJ.out; omega
        case rel => exact ⟨j + 1, rt, z.f4, by first | rfl | (congr 1), rfl, rfl, ⟨by have := HJ.out; omega⟩, HRn, ⟨pw_below_drewN HB.out nq, pw_below_drewN HB3.out nq⟩, ⟨blk_drewN BC.out nq⟩⟩
     ·have d1 : decide (j < s.length) = false := dF hj
      have hjn : s.drop j = [] := List.drop_eq_nil_iff.2 (by omega)
      rw [hjn] at HR
      have HRn : Aside0 (rbC g r cy (l.drop (k + 1)) = R) := ⟨HR.out⟩
      clear hjn HR hj
      have hkl := HLK.out
      go_wp2_with fail
      go_roundg k1
      case measure => have := HK.out; omega
      case rel => exact ⟨k + 1, r, cy, by first | rfl | (congr 1), rfl, rfl, ⟨by have := HK.out; omega⟩, HRn, HB, BC⟩
  ·have d1 : decide (k < l.length) = false := dF hk
   have hkn : l.drop k = [] := List.drop_eq_nil_iff.2 (by omega)
   rw [hkn] at HR
   clear hkn hk
   go_wp2_with fail
   go_ret2
   refine ⟨?_, HB.out⟩
   rw [← HR.out]
   rfl
set_option linter.unusedVariables false
set_option linter.unusedSimpArgs false
open Go.RowKit Go.Proofs.YtbefbhghmommhaaGreatDoorW.PrintWords
theorem rbN_append (g : Int) : ∀ (a : List S55) (r cy : Int) (b : List S55), rbN g r cy (a ++ b) = (rbN g r cy a).bind fun s => rbN g s.1 s.2 b
 | [], _, _, _ => rfl
 | x :: t, r, cy, b => by
  show (if rbBad r cy (Rt.root x.f5 g) x.f4 = true then none else rbN g (Rt.root x.f5 g) x.f4 (t ++ b)) = (if rbBad r cy (Rt.root x.f5 g) x.f4 = true then none else rbN g (Rt.root x.f5 g) x.f4 t).bind _
  by_cases h : rbBad r cy (Rt.root x.f5 g) x.f4 = true
  ·rw [if_pos h, if_pos h]; rfl
  ·rw [if_neg h, if_neg h, rbN_append g t]
theorem rbC_all (g : Int) : ∀ (l : List S37) (r cy : Int), rbC g r cy l = if (l.any fun x => (syn x.f0).isEmpty) = true then (-1, false) else match rbN g r cy (allSyn l) with
  | none => (-1, false)
  | some s => (s.1, decide (0 ≤ s.1))
 | [], _, _ => rfl
 | x :: t, r, cy => by
  have e : allSyn (x :: t) = syn x.f0 ++ allSyn t := by simp [allSyn]
  rw [e, rbN_append, List.any_cons]
  show (if (syn x.f0).isEmpty = true then (-1, false) else match rbN g r cy (syn x.f0) with
   | none => (-1, false)
   | some s => rbC g s.1 s.2 t) = _
  by_cases h : (syn x.f0).isEmpty = true
  ·rw [if_pos h, h, Bool.true_or, if_pos rfl]
  ·rw [if_neg h]
   have h' : (syn x.f0).isEmpty = false := by simpa using h
   rw [h', Bool.false_or]
   cases hn : rbN g r cy (syn x.f0) with
   | none => dsimp only [Option.bind]; split <;> rfl
   | some s => exact rbC_all g t s.1 s.2
theorem rbN_on (g : Int) {r : Int} (hr : 0 ≤ r) (cy : Int) : ∀ (t : List S55), rbN g r cy t = if (t.any (offBase cy g r)) = true then none else some (r, cy)
 | [] => rfl
 | x :: t => by
  show (if rbBad r cy (Rt.root x.f5 g) x.f4 = true then none else rbN g (Rt.root x.f5 g) x.f4 t) = _
  have e : rbBad r cy (Rt.root x.f5 g) x.f4 = offBase cy g r x := by
   unfold rbBad offBase
   rw [dT hr, Bool.true_and]
   by_cases h4 : x.f4 = cy
   ·rw [if_pos h4, show (x.f4 != cy) = false by simp [h4], Bool.or_false]
    by_cases h5 : Rt.root x.f5 g < 0
    ·rw [dT h5, Bool.true_or]; symm; simp; omega
    ·rw [dF h5, Bool.false_or]
   ·rw [if_neg h4, show (x.f4 != cy) = true by simp [h4]]; simp
  rw [e, List.any_cons]
  by_cases h : offBase cy g r x = true
  ·rw [if_pos h, h, Bool.true_or, if_pos rfl]
  ·have h' : offBase cy g r x = false := by simpa using h
   rw [if_neg h, h', Bool.false_or]
   unfold offBase at h'
   by_cases h4 : x.f4 = cy
   ·rw [if_pos h4] at h'
    have h5 : Rt.root x.f5 g = r := by simpa using h'
    rw [h5, h4]
    exact rbN_on g hr cy t
   ·rw [if_neg h4] at h'; cases h'
theorem rb_base (g : Int) (l : List S37) : rbC g (-1) 0 l = baseV g l := by
 rw [rbC_all]
 unfold baseV
 split
 ·rfl
 ·cases allSyn l with
  | nil => rfl
  | cons y t =>
   show (match (if rbBad (-1) 0 (Rt.root y.f5 g) y.f4 = true then none else rbN g (Rt.root y.f5 g) y.f4 t) with
    | none => ((-1 : Int), false)
    | some s => (s.1, decide (0 ≤ s.1))) = if Rt.root y.f5 g < 0 then (-1, false) else if (y :: t).any (offBase y.f4 g (Rt.root y.f5 g)) = true then (-1, false) else (Rt.root y.f5 g, true)
   have e : rbBad (-1) 0 (Rt.root y.f5 g) y.f4 = decide (Rt.root y.f5 g < 0) := by unfold rbBad; simp
   rw [e]
   by_cases h : Rt.root y.f5 g < 0
   ·rw [if_pos (dT h), if_pos h]
   ·rw [if_neg (by simpa using h), if_neg h, rbN_on g (by omega), List.any_cons]
    have e2 : offBase y.f4 g (Rt.root y.f5 g) y = false := by unfold offBase; rw [if_pos rfl]; exact bne_self_eq_false _
    rw [e2, Bool.false_or]
    by_cases h2 : t.any (offBase y.f4 g (Rt.root y.f5 g)) = true
    ·rw [if_pos h2, if_pos h2]
    ·rw [if_neg h2, if_neg h2]
     show (_, decide (0 ≤ Rt.root y.f5 g)) = _
     rw [dT (by omega)]
end Go.Proofs.YtbefbhghmommhaaGreatDoor.MWo
namespace Go.Proofs.YtbefbhghmommhaaGreatDoor.MWo
open Go.RowKit Go.Proofs.YtbefbhghmommhaaGreatDoorW.PrintWords Go.Proofs.YtbefbhghmommhaaGreatDoorW.PrintLast Go.Proofs.YtbefbhghmommhaaGreatDoorW.PrintMore
attribute [local go_sem] mp_u32s mp_u32m mp_u8s mp_u8m max2_int min2_int max_two min_two max_three min_three max_four min_four
set_option linter.unusedVariables false
set_option linter.unusedSimpArgs false
def dr5_ports.l0 : Nat → Int → Int → Int → List (S68) → List (S71) → Int → Int → Int → Int → Int → Int → Int → Int → Int → Int → Int → Option (Int)
 | 0, _, _, _, _, _, _, _, _, _, _, _, _, _, _, _, _ => none
 | k + 1, x1, x5, x6, x334000, x334001, x334002, x334003, x334004, x334005, x334006, x334007, x334008, x334009, x334010, x334011, x334012 => if x6 < (x334001.length : Int) then (if 0 ≤ x6 then (if ((rd_T71 x334001 x6).f0) = x1 then (dr5_ports.l0 k x1 (wrap64 (x5 + 2)) (wrap64 (x6 + 1)) x334000 x334001 x334002 x334003 x334004 x334005 x334006 x334007 x334008 x334009 x334010 x334011 x334012) else (if ((rd_T71 x334001 x6).f1) = x1 then (dr5_ports.l0 k x1 (wrap64 (x5 + 2)) (wrap64 (x6 + 1)) x334000 x334001 x334002 x334003 x334004 x334005 x334006 x334007 x334008 x334009 x334010 x334011 x334012) else (dr5_ports.l0 k x1 x5 (wrap64 (x6 + 1)) x334000 x334001 x334002 x334003 x334004 x334005 x334006 x334007 x334008 x334009 x334010 x334011 x334012))) else (none)) else (some x5)
def dr5_ports.f (k : Nat) (l0_0 : List (S68)) (l0_1 : List (S71)) (a0_2 : Int) (a0_3 : Int) (a0_4 : Int) (a0_5 : Int) (a0_6 : Int) (a0_7 : Int) (a0_8 : Int) (a0_9 : Int) (a0_10 : Int) (a0_11 : Int) (a0_12 : Int) (a1 : Int) : Option (Int) := dr5_ports.l0 k a1 0 0 l0_0 l0_1 a0_2 a0_3 a0_4 a0_5 a0_6 a0_7 a0_8 a0_9 a0_10 a0_11 a0_12
set_option maxHeartbeats 8000000 in
set_option maxRecDepth 100000 in
theorem dr5_ports.calls (k : Nat) (A0_0 : Option Addr) (c0_0 : Nat) (l0_0 : List (S68)) (A0_1 : Option Addr) (c0_1 : Nat) (l0_1 : List (S71)) (a0_2 : Int) (a0_3 : Int) (a0_4 : Int) (a0_5 : Int) (a0_6 : Int) (a0_7 : Int) (a0_8 : Int) (a0_9 : Int) (a0_10 : Int) (a0_11 : Int) (a0_12 : Int) (a1 : Int) (r : Int) (w : World) (hr0_0 : Kd.C k68 w A0_0 l0_0.length l0_0) (hc0_0 : l0_0.length ≤ c0_0) (hr0_1 : Kd.C k71 w A0_1 l0_1.length l0_1) (hc0_1 : l0_1.length ≤ c0_1) (h : dr5_ports.f k l0_0 l0_1 a0_2 a0_3 a0_4 a0_5 a0_6 a0_7 a0_8 a0_9 a0_10 a0_11 a0_12 a1 = some r) :
  Calls Tryz.prog 84 #[.agg #[.slice A0_0 l0_0.length c0_0, .slice A0_1 l0_1.length c0_1, .int .i64 a0_2, .int .i64 a0_3, .int .i64 a0_4, .int .i64 a0_5, .int .i64 a0_6, .int .i64 a0_7, .int .i64 a0_8, .int .i64 a0_9, .int .i64 a0_10, .int .i64 a0_11, .int .i64 a0_12], .int .i64 a1] w fun e w' => e = .returned (.int .i64 r) ∧ Below w.heap.size w w' := by
 have hu25 := Tryz.underlying25
 have HR0_0 := am hr0_0
 have HC0_0 := am hc0_0
 clear hr0_0 hc0_0
 have HR0_1 := am hr0_1
 have HC0_1 := am hc0_1
 clear hr0_1 hc0_1
 have HB := am (Below.refl w.heap.size w)
 have H : (dr5_ports.l0 k a1 0 0 l0_0 l0_1 a0_2 a0_3 a0_4 a0_5 a0_6 a0_7 a0_8 a0_9 a0_10 a0_11 a0_12) = some r := h
 clear h
 have H' := am H
 clear H
 go_enter Tryz.func84, Tryz.ntmps84
 go_wp2_with (first | ((with_reducible refine gate_dst (N := 2) rfl ?_); refine bxe 2 #[.slice A0_0 l0_0.length c0_0, .slice A0_1 l0_1.length c0_1, .int .i64 a0_2, .int .i64 a0_3, .int .i64 a0_4, .int .i64 a0_5, .int .i64 a0_6, .int .i64 a0_7, .int .i64 a0_8, .int .i64 a0_9, .int .i64 a0_10, .int .i64 a0_11, .int .i64 a0_12] 25 ?_; intro gb333 hg w3 hbox hb; have n0_ := am (below_step bl0 hb); have n1_ := am (hbox); have n2_ := am (gw0 hg); have n3_ := am (gw0 hg); clear HB; have HB := n0_; have BK333 := n1_; have GW333 := n2_; have GE333 := n3_; clear n0_ n1_ n2_ n3_; clear hb hbox hg))
 go_loopg [5, 6] k (fun kq v5 v6 w' => ∃ (x5_1 : Int) (x6_1 : Int), v5 = .int .i64 x5_1 ∧ v6 = .int .i64 x6_1 ∧ Aside0 (dr5_ports.l0 kq a1 x5_1 x6_1 l0_0 l0_1 a0_2 a0_3 a0_4 a0_5 a0_6 a0_7 a0_8 a0_9 a0_10 a0_11 a0_12 = some r) ∧ Aside0 (kq ≤ k) ∧ Aside0 (w'.heap[gb333]? = some (.cells #[(.slice A0_0 l0_0.length c0_0), (.slice A0_1 l0_1.length c0_1), .int .i64 a0_2, .int .i64 a0_3, .int .i64 a0_4, .int .i64 a0_5, .int .i64 a0_6, .int .i64 a0_7, .int .i64 a0_8, .int .i64 a0_9, .int .i64 a0_10, .int .i64 a0_11, .int .i64 a0_12] 25 (0, 0))) ∧ Aside0 (Below w.heap.size w w'))
 case atStart => exact ⟨(0), (0), bx, bx, H', ⟨Nat.le_refl _⟩, ⟨bk BK333⟩, ⟨bl1 GE333⟩⟩
 case round =>
  clear H'
  try clear p2
  obtain ⟨x5_1, x6_1, rfl, rfl, HA, HK1, BK333, HB⟩ := hrel
  cases gk with
  | zero => exact absurd HA.out (by simp [dr5_ports.l0])
  | succ k1 =>
   have H := HA.out
   clear HA
   simp only [dr5_ports.l0] at H
   by_cases c4 : x6_1 < (l0_1.length : Int)
   ·rw [if_pos c4] at H
    have c4b0 : decide (x6_1 < (l0_1.length : Int)) = true := dT c4
    clear c4
    by_cases c5 : 0 ≤ x6_1
    ·rw [if_pos c5] at H
     have c5b0 : decide (0 ≤ x6_1) = true := dT c5
     clear c5
     by_cases c6 : ((rd_T71 l0_1 x6_1).f0) = a1
     ·rw [if_pos c6] at H
      have c6b0 : (((rd_T71 l0_1 x6_1).f0) == a1) = true := beq_iff_eq.mpr c6
      have c6b1 : (((rd_T71 l0_1 x6_1).f0) != a1) = false := bne_eq_false_iff_eq.mpr c6
      clear c6
      have H' := am H
      clear H
      obtain ⟨hcz7_0, hcz7_1, hcz7_2, hcz7_3, hcz7_4, hcz7_5, hcz7_6, hcz7_7, hcz7_8, hcz7_9, hcz7_10, hcz7_11, hcz7_12⟩ := cellsK13 BK333.out
      obtain ⟨hfz7_0, hfz7_1, hfz7_2, hfz7_3, hfz7_4, hfz7_5, hfz7_6, hfz7_7, hfz7_8, hfz7_9, hfz7_10, hfz7_11, hfz7_12⟩ := frozK13 BK333.out
      have p334 : 0 ≤ (x6_1 : Int) := oT asm
      have q334 : x6_1 < (l0_1.length : Int) := oT asm
      obtain ⟨ad334, e334, hx334_0, hx334_1, hx334_2, hx334_3, hx334_4, hx334_5⟩ := at_T71 HR0_1.out x6_1 p334 q334
      cases e334
      replace hx334_0 := hxk HB hx334_0
      replace hx334_1 := hxk HB hx334_1
      replace hx334_2 := hxk HB hx334_2
      replace hx334_3 := hxk HB hx334_3
      replace hx334_4 := hxk HB hx334_4
      replace hx334_5 := hxk HB hx334_5
      replace p334 := eq_true p334
      replace q334 := eq_true q334
      go_wp2
      go_roundg k1
      case measure => have := HK1.out; omega
      case rel => exact ⟨(wrap64 (x5_1 + 2)), (wrap64 (x6_1 + 1)), bx, bx, H', ⟨by have := HK1.out; omega⟩, ⟨bk BK333⟩, ⟨bl1 GE333⟩⟩
     ·rw [if_neg c6] at H
      have c6b0 : (((rd_T71 l0_1 x6_1).f0) == a1) = false := beq_eq_false_iff_ne.mpr c6
      have c6b1 : (((rd_T71 l0_1 x6_1).f0) != a1) = true := bne_iff_ne.mpr c6
      by_cases c8 : ((rd_T71 l0_1 x6_1).f1) = a1
      ·rw [if_pos c8] at H
       have c8b0 : (((rd_T71 l0_1 x6_1).f1) == a1) = true := beq_iff_eq.mpr c8
       have c8b1 : (((rd_T71 l0_1 x6_1).f1) != a1) = false := bne_eq_false_iff_eq.mpr c8
       clear c8
       have H' := am H
       clear H
       obtain ⟨hcz9_0, hcz9_1, hcz9_2, hcz9_3, hcz9_4, hcz9_5, hcz9_6, hcz9_7, hcz9_8, hcz9_9, hcz9_10, hcz9_11, hcz9_12⟩ := cellsK13 BK333.out
       obtain ⟨hfz9_0, hfz9_1, hfz9_2, hfz9_3, hfz9_4, hfz9_5, hfz9_6, hfz9_7, hfz9_8, hfz9_9, hfz9_10, hfz9_11, hfz9_12⟩ := frozK13 BK333.out
       have p334 : 0 ≤ (x6_1 : Int) := oT asm
       have q334 : x6_1 < (l0_1.length : Int) := oT asm
       obtain ⟨ad334, e334, hx334_0, hx334_1, hx334_2, hx334_3, hx334_4, hx334_5⟩ := at_T71 HR0_1.out x6_1 p334 q334
       cases e334
       replace hx334_0 := hxk HB hx334_0
       replace hx334_1 := hxk HB hx334_1
       replace hx334_2 := hxk HB hx334_2
       replace hx334_3 := hxk HB hx334_3
       replace hx334_4 := hxk HB hx334_4
       replace hx334_5 := hxk HB hx334_5
       replace p334 := eq_true p334
       replace q334 := eq_true q334
       have p335 : 0 ≤ (x6_1 : Int) := oT asm
       have q335 : x6_1 < (l0_1.length : Int) := oT asm
       obtain ⟨ad335, e335, hx335_0, hx335_1, hx335_2, hx335_3, hx335_4, hx335_5⟩ := at_T71 HR0_1.out x6_1 p335 q335
       obtain rfl : ad334 = ad335 := (by injection e335)
       replace hx335_0 := hxk HB hx335_0
       replace hx335_1 := hxk HB hx335_1
       replace hx335_2 := hxk HB hx335_2
       replace hx335_3 := hxk HB hx335_3
       replace hx335_4 := hxk HB hx335_4
       replace hx335_5 := hxk HB hx335_5
       replace p335 := eq_true p335
       replace q335 := eq_true q335
       go_wp2
       go_roundg k1
       case measure => have := HK1.out; omega
       case rel => exact ⟨(wrap64 (x5_1 + 2)), (wrap64 (x6_1 + 1)), bx, bx, H', ⟨by have := HK1.out; omega⟩, ⟨bk BK333⟩, ⟨bl1 GE333⟩⟩
      ·rw [if_neg c8] at H
       have c8b0 : (((rd_T71 l0_1 x6_1).f1) == a1) = false := beq_eq_false_iff_ne.mpr c8
       have c8b1 : (((rd_T71 l0_1 x6_1).f1) != a1) = true := bne_iff_ne.mpr c8
       have H' := am H
       clear H
       obtain ⟨hcz10_0, hcz10_1, hcz10_2, hcz10_3, hcz10_4, hcz10_5, hcz10_6, hcz10_7, hcz10_8, hcz10_9, hcz10_10, hcz10_11, hcz10_12⟩ := cellsK13 BK333.out
       obtain ⟨hfz10_0, hfz10_1, hfz10_2, hfz10_3, hfz10_4, hfz10_5, hfz10_6, hfz10_7, hfz10_8, hfz10_9, hfz10_10, hfz10_11, hfz10_12⟩ := frozK13 BK333.out
       have p334 : 0 ≤ (x6_1 : Int) := oT asm
       have q334 : x6_1 < (l0_1.length : Int) := oT asm
       obtain ⟨ad334, e334, hx334_0, hx334_1, hx334_2, hx334_3, hx334_4, hx334_5⟩ := at_T71 HR0_1.out x6_1 p334 q334
       cases e334
       replace hx334_0 := hxk HB hx334_0
       replace hx334_1 := hxk HB hx334_1
       replace hx334_2 := hxk HB hx334_2
       replace hx334_3 := hxk HB hx334_3
       replace hx334_4 := hxk HB hx334_4
       replace hx334_5 := hxk HB hx334_5
       replace p334 := eq_true p334
       replace q334 := eq_true q334
       have p335 : 0 ≤ (x6_1 : Int) := oT asm
       have q335 : x6_1 < (l0_1.length : Int) := oT asm
       obtain ⟨ad335, e335, hx335_0, hx335_1, hx335_2, hx335_3, hx335_4, hx335_5⟩ := at_T71 HR0_1.out x6_1 p335 q335
       obtain rfl : ad334 = ad335 := (by injection e335)
       replace hx335_0 := hxk HB hx335_0
       replace hx335_1 := hxk HB hx335_1
       replace hx335_2 := hxk HB hx335_2
       replace hx335_3 := hxk HB hx335_3
       replace hx335_4 := hxk HB hx335_4
       replace hx335_5 := hxk HB hx335_5
       replace p335 := eq_true p335
       replace q335 := eq_true q335
       go_wp2
       go_roundg k1
       case measure => have := HK1.out; omega
       case rel => exact ⟨(x5_1), (wrap64 (x6_1 + 1)), bx, bx, H', ⟨by have := HK1.out; omega⟩, ⟨bk BK333⟩, ⟨bl1 GE333⟩⟩
    ·rw [if_neg c5] at H
     exact absurd H (by simp)
   ·rw [if_neg c4] at H
    have c4b0 : decide (x6_1 < (l0_1.length : Int)) = false := dF c4
    clear c4
    obtain rfl := Option.some.inj H
    obtain ⟨hcz11_0, hcz11_1, hcz11_2, hcz11_3, hcz11_4, hcz11_5, hcz11_6, hcz11_7, hcz11_8, hcz11_9, hcz11_10, hcz11_11, hcz11_12⟩ := cellsK13 BK333.out
    obtain ⟨hfz11_0, hfz11_1, hfz11_2, hfz11_3, hfz11_4, hfz11_5, hfz11_6, hfz11_7, hfz11_8, hfz11_9, hfz11_10, hfz11_11, hfz11_12⟩ := frozK13 BK333.out
    go_wp2
    go_ret
    exact ⟨ew, bl1 GE333⟩
def dr5_slew.f (l0_0 : List (S68)) (l0_1 : List (S71)) (a0_2 : Int) (a0_3 : Int) (a0_4 : Int) (a0_5 : Int) (a0_6 : Int) (a0_7 : Int) (a0_8 : Int) (a0_9 : Int) (a0_10 : Int) (a0_11 : Int) (a0_12 : Int) : Option (Int) := (dr5_up.f (wrap64 (a0_6 * a0_2))).bind fun t337 => (some t337)
set_option maxHeartbeats 8000000 in
set_option maxRecDepth 100000 in
theorem dr5_slew.calls (A0_0 : Option Addr) (c0_0 : Nat) (l0_0 : List (S68)) (A0_1 : Option Addr) (c0_1 : Nat) (l0_1 : List (S71)) (a0_2 : Int) (a0_3 : Int) (a0_4 : Int) (a0_5 : Int) (a0_6 : Int) (a0_7 : Int) (a0_8 : Int) (a0_9 : Int) (a0_10 : Int) (a0_11 : Int) (a0_12 : Int) (r : Int) (w : World) (hr0_0 : Kd.C k68 w A0_0 l0_0.length l0_0) (hc0_0 : l0_0.length ≤ c0_0) (hr0_1 : Kd.C k71 w A0_1 l0_1.length l0_1) (hc0_1 : l0_1.length ≤ c0_1) (h : dr5_slew.f l0_0 l0_1 a0_2 a0_3 a0_4 a0_5 a0_6 a0_7 a0_8 a0_9 a0_10 a0_11 a0_12 = some r) :
  Calls Tryz.prog 104 #[.agg #[.slice A0_0 l0_0.length c0_0, .slice A0_1 l0_1.length c0_1, .int .i64 a0_2, .int .i64 a0_3, .int .i64 a0_4, .int .i64 a0_5, .int .i64 a0_6, .int .i64 a0_7, .int .i64 a0_8, .int .i64 a0_9, .int .i64 a0_10, .int .i64 a0_11, .int .i64 a0_12]] w fun e w' => e = .returned (.int .i64 r) ∧ Below w.heap.size w w' := by
 have hu25 := Tryz.underlying25
 have HR0_0 := am hr0_0
 have HC0_0 := am hc0_0
 clear hr0_0 hc0_0
 have HR0_1 := am hr0_1
 have HC0_1 := am hc0_1
 clear hr0_1 hc0_1
 have HB := am (Below.refl w.heap.size w)
 have H : ((dr5_up.f (wrap64 (a0_6 * a0_2))).bind fun t337 => (some t337)) = some r := h
 clear h
 replace H := bS H
 obtain ⟨t337, A20, H⟩ := H
 replace H : (some t337) = some r := H
 have A2 := am A20
 clear A20
 obtain rfl := Option.some.inj H
 go_enter Tryz.func104, Tryz.ntmps104
 go_wp2_with (first | ((with_reducible refine gate_dst (N := 1) rfl ?_); refine bxe 1 #[.slice A0_0 l0_0.length c0_0, .slice A0_1 l0_1.length c0_1, .int .i64 a0_2, .int .i64 a0_3, .int .i64 a0_4, .int .i64 a0_5, .int .i64 a0_6, .int .i64 a0_7, .int .i64 a0_8, .int .i64 a0_9, .int .i64 a0_10, .int .i64 a0_11, .int .i64 a0_12] 25 ?_; intro gb336 hg w3 hbox hb; have n0_ := am (below_step bl0 hb); have n1_ := am (hbox); have n2_ := am (gw0 hg); have n3_ := am (gw0 hg); clear HB; have HB := n0_; have BK336 := n1_; have GW336 := n2_; have GE336 := n3_; clear n0_ n1_ n2_ n3_; clear hb hbox hg; obtain ⟨hcz4_0, hcz4_1, hcz4_2, hcz4_3, hcz4_4, hcz4_5, hcz4_6, hcz4_7, hcz4_8, hcz4_9, hcz4_10, hcz4_11, hcz4_12⟩ := cellsK13 BK336.out; obtain ⟨hfz4_0, hfz4_1, hfz4_2, hfz4_3, hfz4_4, hfz4_5, hfz4_6, hfz4_7, hfz4_8, hfz4_9, hfz4_10, hfz4_11, hfz4_12⟩ := frozK13 BK336.out) | ((with_reducible refine gate_callee (f := 74) rfl ?_); refine goesL_ (some 8) rfl rfl Tryz.func74 (by kernel_rfl) rfl #[.int .i64 (wrap64 (a0_6 * a0_2))] rfl lm ?_; (with_reducible refine (dr5_up.calls (wrap64 (a0_6 * a0_2)) t337 _ A2.out).mono ?_); rintro e w' ⟨rfl, ⟨nd, rfl⟩⟩; refine ⟨_, rfl, ?_⟩))
 go_ret
 exact ⟨ew, bl1 GE336⟩
def dr5_step.f (l0_0 : List (S68)) (l0_1 : List (S71)) (a0_2 : Int) (a0_3 : Int) (a0_4 : Int) (a0_5 : Int) (a0_6 : Int) (a0_7 : Int) (a0_8 : Int) (a0_9 : Int) (a0_10 : Int) (a0_11 : Int) (a0_12 : Int) : Option (Int) := (dr5_edge.f l0_0 l0_1 a0_2 a0_3 a0_4 a0_5 a0_6 a0_7 a0_8 a0_9 a0_10 a0_11 a0_12).bind fun t339 => ((dr5_slew.f l0_0 l0_1 a0_2 a0_3 a0_4 a0_5 a0_6 a0_7 a0_8 a0_9 a0_10 a0_11 a0_12).bind fun t340 => (some (wrap64 ((wrap64 ((wrap64 (4 * t339)) + (wrap64 (2 * t340)))) + 2))))
def dr5_step.T1 : Bool × List (List Nat × List Nat) := (true, [([], []), ([0], [0]), ([1], [1]), ([], []), ([3, 1], [3]), ([4], [4]), ([2, 5], [2, 5]), ([6], [6]), ([7, 4, 0, 1, 2, 3, 4, 5, 6, 7], [7])])
def dr5_step.B1 : List Nat := [0, 1, 3, 0, 11, 27, 63, 127, 255]
theorem dr5_step.tab1 : rtab .any (opsOf Tryz.f91 1) = dr5_step.T1 := by kernel_rfl
theorem dr5_step.bits1 : waitsOk dr5_step.T1.2 dr5_step.B1 = true := by kernel_rfl
set_option maxHeartbeats 8000000 in
set_option maxRecDepth 100000 in
theorem dr5_step.calls (A0_0 : Option Addr) (c0_0 : Nat) (l0_0 : List (S68)) (A0_1 : Option Addr) (c0_1 : Nat) (l0_1 : List (S71)) (a0_2 : Int) (a0_3 : Int) (a0_4 : Int) (a0_5 : Int) (a0_6 : Int) (a0_7 : Int) (a0_8 : Int) (a0_9 : Int) (a0_10 : Int) (a0_11 : Int) (a0_12 : Int) (r : Int) (w : World) (hr0_0 : Kd.C k68 w A0_0 l0_0.length l0_0) (hc0_0 : l0_0.length ≤ c0_0) (hr0_1 : Kd.C k71 w A0_1 l0_1.length l0_1) (hc0_1 : l0_1.length ≤ c0_1) (h : dr5_step.f l0_0 l0_1 a0_2 a0_3 a0_4 a0_5 a0_6 a0_7 a0_8 a0_9 a0_10 a0_11 a0_12 = some r) :
  Calls Tryz.prog 91 #[.agg #[.slice A0_0 l0_0.length c0_0, .slice A0_1 l0_1.length c0_1, .int .i64 a0_2, .int .i64 a0_3, .int .i64 a0_4, .int .i64 a0_5, .int .i64 a0_6, .int .i64 a0_7, .int .i64 a0_8, .int .i64 a0_9, .int .i64 a0_10, .int .i64 a0_11, .int .i64 a0_12]] w fun e w' => e = .returned (.int .i64 r) ∧ Below w.heap.size w w' := by
 have hu25 := Tryz.underlying25
 have HR0_0 := am hr0_0
 have HC0_0 := am hc0_0
 clear hr0_0 hc0_0
 have HR0_1 := am hr0_1
 have HC0_1 := am hc0_1
 clear hr0_1 hc0_1
 have HB := am (Below.refl w.heap.size w)
 have H : ((dr5_edge.f l0_0 l0_1 a0_2 a0_3 a0_4 a0_5 a0_6 a0_7 a0_8 a0_9 a0_10 a0_11 a0_12).bind fun t339 => ((dr5_slew.f l0_0 l0_1 a0_2 a0_3 a0_4 a0_5 a0_6 a0_7 a0_8 a0_9 a0_10 a0_11 a0_12).bind fun t340 => (some (wrap64 ((wrap64 ((wrap64 (4 * t339)) + (wrap64 (2 * t340)))) + 2))))) = some r := h
 clear h
 replace H := bS H
 obtain ⟨t339, A20, H⟩ := H
 replace H : ((dr5_slew.f l0_0 l0_1 a0_2 a0_3 a0_4 a0_5 a0_6 a0_7 a0_8 a0_9 a0_10 a0_11 a0_12).bind fun t340 => (some (wrap64 ((wrap64 ((wrap64 (4 * t339)) + (wrap64 (2 * t340)))) + 2)))) = some r := H
 have A2 := am A20
 clear A20
 replace H := bS H
 obtain ⟨t340, A30, H⟩ := H
 replace H : (some (wrap64 ((wrap64 ((wrap64 (4 * t339)) + (wrap64 (2 * t340)))) + 2))) = some r := H
 have A3 := am A30
 clear A30
 obtain rfl := Option.some.inj H
 go_enter Tryz.func91, Tryz.ntmps91
 try go_wp2_with (first | ((with_reducible refine gate_dst (N := 1) rfl ?_); refine bxe 1 #[.slice A0_0 l0_0.length c0_0, .slice A0_1 l0_1.length c0_1, .int .i64 a0_2, .int .i64 a0_3, .int .i64 a0_4, .int .i64 a0_5, .int .i64 a0_6, .int .i64 a0_7, .int .i64 a0_8, .int .i64 a0_9, .int .i64 a0_10, .int .i64 a0_11, .int .i64 a0_12] 25 ?_; intro gb338 hg w4 hbox hb; have n0_ := am (below_step bl0 hb); have n1_ := am (hbox); have n2_ := am (gw0 hg); have n3_ := am (gw0 hg); clear HB; have HB := n0_; have BK338 := n1_; have GW338 := n2_; have GE338 := n3_; clear n0_ n1_ n2_ n3_; clear hb hbox hg))
 have n0_ := am (blk_drew BK338.out)
 have n1_ := am (below_drew1 HB.out)
 clear BK338
 clear HB
 have BK338 := n0_
 have HB := n1_
 clear n0_ n1_
 refine start_ (n := 9) (S := fun w' => w'.cell? ⟨gb338, 0, none⟩ = some (.slice A0_0 l0_0.length c0_0) ∧ w'.cell? ⟨gb338, 1, none⟩ = some (.slice A0_1 l0_1.length c0_1) ∧ w'.cell? ⟨gb338, 2, none⟩ = some (.int .i64 a0_2) ∧ w'.cell? ⟨gb338, 3, none⟩ = some (.int .i64 a0_3) ∧ w'.cell? ⟨gb338, 4, none⟩ = some (.int .i64 a0_4) ∧ w'.cell? ⟨gb338, 5, none⟩ = some (.int .i64 a0_5) ∧ w'.cell? ⟨gb338, 6, none⟩ = some (.int .i64 a0_6) ∧ w'.cell? ⟨gb338, 7, none⟩ = some (.int .i64 a0_7) ∧ w'.cell? ⟨gb338, 8, none⟩ = some (.int .i64 a0_8) ∧ w'.cell? ⟨gb338, 9, none⟩ = some (.int .i64 a0_9) ∧ w'.cell? ⟨gb338, 10, none⟩ = some (.int .i64 a0_10) ∧ w'.cell? ⟨gb338, 11, none⟩ = some (.int .i64 a0_11) ∧ w'.cell? ⟨gb338, 12, none⟩ = some (.int .i64 a0_12)) (ds := []) #[false, false, false, false, false, false, false, false, false] (by kernel_rfl) rfl rfl (cellsK13 BK338.out) (fun hHeld => ?_); refine with_tabW dr5_step.tab1 dr5_step.bits1 (fun HT_ HW_ => ?_)
 generalize w4.drew = w5 at BK338 HB hHeld ⊢
 refine tw13 HT_ HW_ 0 3 ?_
 refine tw13 HT_ HW_ 3 6 ?_
 refine ov HT_ 1 4 (fun K hK => ?_)
 refine goes_ Tryz.func61 (by kernel_rfl) rfl #[.agg #[.slice A0_0 l0_0.length c0_0, .slice A0_1 l0_1.length c0_1, .int .i64 a0_2, .int .i64 a0_3, .int .i64 a0_4, .int .i64 a0_5, .int .i64 a0_6, .int .i64 a0_7, .int .i64 a0_8, .int .i64 a0_9, .int .i64 a0_10, .int .i64 a0_11, .int .i64 a0_12]] (by rfl) rfl rfl lm ?_
 with_reducible refine (dr5_edge.calls _ _ l0_0 _ _ l0_1 a0_2 a0_3 a0_4 a0_5 a0_6 a0_7 a0_8 a0_9 a0_10 a0_11 a0_12 t339 _ ?side1 ?side2 ?side3 ?side4 A2.out).mono ?_
 (case side1 => exact kc HR0_0)
 (case side2 => exact HC0_0.out)
 (case side3 => exact kc HR0_1)
 (case side4 => exact HC0_1.out)
 rintro e w6 ⟨rfl, hb⟩
 refine ⟨_, rfl, ?_⟩
 have n0_ := am (blk_below (bk BK338) hb)
 have n1_ := am (below_step (bl1 GE338) hb)
 clear BK338
 clear HB
 have BK338 := n0_
 have HB := n1_
 clear n0_ n1_
 (try clear hb)
 (try clear hb2)
 (try clear hk)
 (try clear hi)
 refine hK.out _ _ (cellsK13 BK338.out) (fun hHeld => ?_)
 clear hK K
 refine norm_ (a' := ?_) ?_ ?_
 rotate_left
 ·show Act.put _ (some 4) _ = _
  simp only [Act.put, sAa, sBb, sCc, i64_w, i32_w]
  rfl
 refine pv HT_ 2 5 ?_
 refine ov HT_ 4 7 (fun K hK => ?_)
 refine goes_ Tryz.func104 (by kernel_rfl) rfl #[.agg #[.slice A0_0 l0_0.length c0_0, .slice A0_1 l0_1.length c0_1, .int .i64 a0_2, .int .i64 a0_3, .int .i64 a0_4, .int .i64 a0_5, .int .i64 a0_6, .int .i64 a0_7, .int .i64 a0_8, .int .i64 a0_9, .int .i64 a0_10, .int .i64 a0_11, .int .i64 a0_12]] (by rfl) rfl rfl lm ?_
 with_reducible refine (dr5_slew.calls _ _ l0_0 _ _ l0_1 a0_2 a0_3 a0_4 a0_5 a0_6 a0_7 a0_8 a0_9 a0_10 a0_11 a0_12 t340 _ ?side1 ?side2 ?side3 ?side4 A3.out).mono ?_
 (case side1 => exact kc HR0_0)
 (case side2 => exact HC0_0.out)
 (case side3 => exact kc HR0_1)
 (case side4 => exact HC0_1.out)
 rintro e w7 ⟨rfl, hb⟩
 refine ⟨_, rfl, ?_⟩
 have n0_ := am (blk_below (bk BK338) hb)
 have n1_ := am (below_step (bl1 GE338) hb)
 clear BK338
 clear HB
 have BK338 := n0_
 have HB := n1_
 clear n0_ n1_
 (try clear hb)
 (try clear hb2)
 (try clear hk)
 (try clear hi)
 refine hK.out _ _ (cellsK13 BK338.out) (fun hHeld => ?_)
 clear hK K
 refine norm_ (a' := ?_) ?_ ?_
 rotate_left
 ·show Act.put _ (some 7) _ = _
  simp only [Act.put, sAa, sBb, sCc, i64_w, i32_w]
  rfl
 refine pv HT_ 5 8 ?_
 refine pv HT_ 6 9 ?_
 refine pv HT_ 7 10 ?_
 refine pv HT_ 8 2 ?_
 refine done_ (done_of HT_.out (by kernel_rfl)) ?_
 try go_wp2
 go_ret
 exact ⟨ew, bl1 GE338⟩
def dr5_jump.f (l0_0 : List (S68)) (l0_1 : List (S71)) (a0_2 : Int) (a0_3 : Int) (a0_4 : Int) (a0_5 : Int) (a0_6 : Int) (a0_7 : Int) (a0_8 : Int) (a0_9 : Int) (a0_10 : Int) (a0_11 : Int) (a0_12 : Int) : Option (Int) := (dr5_step.f l0_0 l0_1 a0_2 a0_3 a0_4 a0_5 a0_6 a0_7 a0_8 a0_9 a0_10 a0_11 a0_12).bind fun t342 => ((dr5_edge.f l0_0 l0_1 a0_2 a0_3 a0_4 a0_5 a0_6 a0_7 a0_8 a0_9 a0_10 a0_11 a0_12).bind fun t343 => (some (wrap64 ((wrap64 ((wrap64 (2 * a0_8)) * t342)) + (wrap64 (4 * t343))))))
def dr5_jump.T1 : Bool × List (List Nat × List Nat) := (true, [([], []), ([0], [0]), ([1], [1]), ([], []), ([3], [3]), ([2, 4], [2, 4]), ([], []), ([6, 4], [6]), ([7], [7]), ([5, 8], [5, 8]), ([9, 7, 0, 1, 2, 3, 4, 5, 6, 7, 8, 9], [9])])
def dr5_jump.B1 : List Nat := [0, 1, 3, 0, 8, 31, 0, 88, 216, 511, 1023]
theorem dr5_jump.tab1 : rtab .any (opsOf Tryz.f85 1) = dr5_jump.T1 := by kernel_rfl
theorem dr5_jump.bits1 : waitsOk dr5_jump.T1.2 dr5_jump.B1 = true := by kernel_rfl
set_option maxHeartbeats 8000000 in
set_option maxRecDepth 100000 in
theorem dr5_jump.calls (A0_0 : Option Addr) (c0_0 : Nat) (l0_0 : List (S68)) (A0_1 : Option Addr) (c0_1 : Nat) (l0_1 : List (S71)) (a0_2 : Int) (a0_3 : Int) (a0_4 : Int) (a0_5 : Int) (a0_6 : Int) (a0_7 : Int) (a0_8 : Int) (a0_9 : Int) (a0_10 : Int) (a0_11 : Int) (a0_12 : Int) (r : Int) (w : World) (hr0_0 : Kd.C k68 w A0_0 l0_0.length l0_0) (hc0_0 : l0_0.length ≤ c0_0) (hr0_1 : Kd.C k71 w A0_1 l0_1.length l0_1) (hc0_1 : l0_1.length ≤ c0_1) (h : dr5_jump.f l0_0 l0_1 a0_2 a0_3 a0_4 a0_5 a0_6 a0_7 a0_8 a0_9 a0_10 a0_11 a0_12 = some r) :
  Calls Tryz.prog 85 #[.agg #[.slice A0_0 l0_0.length c0_0, .slice A0_1 l0_1.length c0_1, .int .i64 a0_2, .int .i64 a0_3, .int .i64 a0_4, .int .i64 a0_5, .int .i64 a0_6, .int .i64 a0_7, .int .i64 a0_8, .int .i64 a0_9, .int .i64 a0_10, .int .i64 a0_11, .int .i64 a0_12]] w fun e w' => e = .returned (.int .i64 r) ∧ Below w.heap.size w w' := by
 have hu25 := Tryz.underlying25
 have HR0_0 := am hr0_0
 have HC0_0 := am hc0_0
 clear hr0_0 hc0_0
 have HR0_1 := am hr0_1
 have HC0_1 := am hc0_1
 clear hr0_1 hc0_1
 have HB := am (Below.refl w.heap.size w)
 have H : ((dr5_step.f l0_0 l0_1 a0_2 a0_3 a0_4 a0_5 a0_6 a0_7 a0_8 a0_9 a0_10 a0_11 a0_12).bind fun t342 => ((dr5_edge.f l0_0 l0_1 a0_2 a0_3 a0_4 a0_5 a0_6 a0_7 a0_8 a0_9 a0_10 a0_11 a0_12).bind fun t343 => (some (wrap64 ((wrap64 ((wrap64 (2 * a0_8)) * t342)) + (wrap64 (4 * t343))))))) = some r := h
 clear h
 replace H := bS H
 obtain ⟨t342, A20, H⟩ := H
 replace H : ((dr5_edge.f l0_0 l0_1 a0_2 a0_3 a0_4 a0_5 a0_6 a0_7 a0_8 a0_9 a0_10 a0_11 a0_12).bind fun t343 => (some (wrap64 ((wrap64 ((wrap64 (2 * a0_8)) * t342)) + (wrap64 (4 * t343)))))) = some r := H
 have A2 := am A20
 clear A20
 replace H := bS H
 obtain ⟨t343, A30, H⟩ := H
 replace H : (some (wrap64 ((wrap64 ((wrap64 (2 * a0_8)) * t342)) + (wrap64 (4 * t343))))) = some r := H
 have A3 := am A30
 clear A30
 obtain rfl := Option.some.inj H
 go_enter Tryz.func85, Tryz.ntmps85
 try go_wp2_with (first | ((with_reducible refine gate_dst (N := 1) rfl ?_); refine bxe 1 #[.slice A0_0 l0_0.length c0_0, .slice A0_1 l0_1.length c0_1, .int .i64 a0_2, .int .i64 a0_3, .int .i64 a0_4, .int .i64 a0_5, .int .i64 a0_6, .int .i64 a0_7, .int .i64 a0_8, .int .i64 a0_9, .int .i64 a0_10, .int .i64 a0_11, .int .i64 a0_12] 25 ?_; intro gb341 hg w4 hbox hb; have n0_ := am (below_step bl0 hb); have n1_ := am (hbox); have n2_ := am (gw0 hg); have n3_ := am (gw0 hg); clear HB; have HB := n0_; have BK341 := n1_; have GW341 := n2_; have GE341 := n3_; clear n0_ n1_ n2_ n3_; clear hb hbox hg))
 have n0_ := am (blk_drew BK341.out)
 have n1_ := am (below_drew1 HB.out)
 clear BK341
 clear HB
 have BK341 := n0_
 have HB := n1_
 clear n0_ n1_
 refine start_ (n := 11) (S := fun w' => w'.cell? ⟨gb341, 0, none⟩ = some (.slice A0_0 l0_0.length c0_0) ∧ w'.cell? ⟨gb341, 1, none⟩ = some (.slice A0_1 l0_1.length c0_1) ∧ w'.cell? ⟨gb341, 2, none⟩ = some (.int .i64 a0_2) ∧ w'.cell? ⟨gb341, 3, none⟩ = some (.int .i64 a0_3) ∧ w'.cell? ⟨gb341, 4, none⟩ = some (.int .i64 a0_4) ∧ w'.cell? ⟨gb341, 5, none⟩ = some (.int .i64 a0_5) ∧ w'.cell? ⟨gb341, 6, none⟩ = some (.int .i64 a0_6) ∧ w'.cell? ⟨gb341, 7, none⟩ = some (.int .i64 a0_7) ∧ w'.cell? ⟨gb341, 8, none⟩ = some (.int .i64 a0_8) ∧ w'.cell? ⟨gb341, 9, none⟩ = some (.int .i64 a0_9) ∧ w'.cell? ⟨gb341, 10, none⟩ = some (.int .i64 a0_10) ∧ w'.cell? ⟨gb341, 11, none⟩ = some (.int .i64 a0_11) ∧ w'.cell? ⟨gb341, 12, none⟩ = some (.int .i64 a0_12)) (ds := []) #[false, false, false, false, false, false, false, false, false, false, false] (by kernel_rfl) rfl rfl (cellsK13 BK341.out) (fun hHeld => ?_); refine with_tabW dr5_jump.tab1 dr5_jump.bits1 (fun HT_ HW_ => ?_)
 generalize w4.drew = w5 at BK341 HB hHeld ⊢
 refine pv HT_ 0 3 ?_
 refine tw13 HT_ HW_ 1 4 ?_
 refine pv HT_ 2 5 ?_
 refine tw13 HT_ HW_ 3 6 ?_
 refine tw13 HT_ HW_ 6 9 ?_
 refine ov HT_ 4 7 (fun K hK => ?_)
 refine goes_ Tryz.func91 (by kernel_rfl) rfl #[.agg #[.slice A0_0 l0_0.length c0_0, .slice A0_1 l0_1.length c0_1, .int .i64 a0_2, .int .i64 a0_3, .int .i64 a0_4, .int .i64 a0_5, .int .i64 a0_6, .int .i64 a0_7, .int .i64 a0_8, .int .i64 a0_9, .int .i64 a0_10, .int .i64 a0_11, .int .i64 a0_12]] (by rfl) rfl rfl lm ?_
 with_reducible refine (dr5_step.calls _ _ l0_0 _ _ l0_1 a0_2 a0_3 a0_4 a0_5 a0_6 a0_7 a0_8 a0_9 a0_10 a0_11 a0_12 t342 _ ?side1 ?side2 ?side3 ?side4 A2.out).mono ?_
 (case side1 => exact kc HR0_0)
 (case side2 => exact HC0_0.out)
 (case side3 => exact kc HR0_1)
 (case side4 => exact HC0_1.out)
 rintro e w6 ⟨rfl, hb⟩
 refine ⟨_, rfl, ?_⟩
 have n0_ := am (blk_below (bk BK341) hb)
 have n1_ := am (below_step (bl1 GE341) hb)
 clear BK341
 clear HB
 have BK341 := n0_
 have HB := n1_
 clear n0_ n1_
 (try clear hb)
 (try clear hb2)
 (try clear hk)
 (try clear hi)
 refine hK.out _ _ (cellsK13 BK341.out) (fun hHeld => ?_)
 clear hK K
 refine norm_ (a' := ?_) ?_ ?_
 rotate_left
 ·show Act.put _ (some 7) _ = _
  simp only [Act.put, sAa, sBb, sCc, i64_w, i32_w]
  rfl
 refine pv HT_ 5 8 ?_
 refine ov HT_ 7 10 (fun K hK => ?_)
 refine goes_ Tryz.func61 (by kernel_rfl) rfl #[.agg #[.slice A0_0 l0_0.length c0_0, .slice A0_1 l0_1.length c0_1, .int .i64 a0_2, .int .i64 a0_3, .int .i64 a0_4, .int .i64 a0_5, .int .i64 a0_6, .int .i64 a0_7, .int .i64 a0_8, .int .i64 a0_9, .int .i64 a0_10, .int .i64 a0_11, .int .i64 a0_12]] (by rfl) rfl rfl lm ?_
 with_reducible refine (dr5_edge.calls _ _ l0_0 _ _ l0_1 a0_2 a0_3 a0_4 a0_5 a0_6 a0_7 a0_8 a0_9 a0_10 a0_11 a0_12 t343 _ ?side1 ?side2 ?side3 ?side4 A3.out).mono ?_
 (case side1 => exact kc HR0_0)
 (case side2 => exact HC0_0.out)
 (case side3 => exact kc HR0_1)
 (case side4 => exact HC0_1.out)
 rintro e w7 ⟨rfl, hb⟩
 refine ⟨_, rfl, ?_⟩
 have n0_ := am (blk_below (bk BK341) hb)
 have n1_ := am (below_step (bl1 GE341) hb)
 clear BK341
 clear HB
 have BK341 := n0_
 have HB := n1_
 clear n0_ n1_
 (try clear hb)
 (try clear hb2)
 (try clear hk)
 (try clear hi)
 refine hK.out _ _ (cellsK13 BK341.out) (fun hHeld => ?_)
 clear hK K
 refine norm_ (a' := ?_) ?_ ?_
 rotate_left
 ·show Act.put _ (some 10) _ = _
  simp only [Act.put, sAa, sBb, sCc, i64_w, i32_w]
  rfl
 refine pv HT_ 8 11 ?_
 refine pv HT_ 9 12 ?_
 refine pv HT_ 10 2 ?_
 refine done_ (done_of HT_.out (by kernel_rfl)) ?_
 try go_wp2
 go_ret
 exact ⟨ew, bl1 GE341⟩
end Go.Proofs.YtbefbhghmommhaaGreatDoor.MWo
