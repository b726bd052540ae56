/- Texts of this claim, laid together by a program (wip/g/merge5.py): HBr, PuBs, MWox75. -/
import Derived.Test.YtbefbhghmommhaaGreatDoorZWr19
import Derived.Test.YtbefbhghmommhaaGreatDoorZWr21
import Derived.Test.YtbefbhghmommhaaGreatDoorZWr4
set_option linter.unusedVariables false
set_option linter.unusedSimpArgs false
set_option maxRecDepth 100000
namespace Go.Proofs.YtbefbhghmommhaaGreatDoor.MWo
open Go.RowKit Go.Proofs.YtbefbhghmommhaaGreatDoorW.PrintWords Go.Proofs.YtbefbhghmommhaaGreatDoorW.PrintLast Go.Proofs.YtbefbhghmommhaaGreatDoorW.PrintMore Go.Proofs.YtbefbhghmommhaaGreatDoor.Evl
def rbBad (r cy rt f : Int) : Bool := decide (rt < 0) || (decide (0 ≤ r) && ((rt != r) || (f != cy)))
def rbN (g : Int) : Int → Int → List S55 → Option (Int × Int)
 | r, cy, [] => some (r, cy)
 | r, cy, x :: t => if rbBad r cy (Rt.root x.f5 g) x.f4 = true then none else rbN g (Rt.root x.f5 g) x.f4 t
def rbC (g : Int) : Int → Int → List S37 → Int × Bool
 | r, _, [] => (r, decide (0 ≤ r))
 | r, cy, x :: t => if (syn x.f0).isEmpty = true then (-1, false) else match rbN g r cy (syn x.f0) with
  | none => (-1, false)
  | some s => rbC g s.1 s.2 t
def rbK (g : Int) (t : List S37) : Option (Int × Int) → Int × Bool
 | none => (-1, false)
 | some s => rbC g s.1 s.2 t
set_option maxHeartbeats 8000000 in
theorem rbase_walk (A0 : Option Addr) (c0 : Nat) (P : List S68) (A1 : Option Addr) (c1 : Nat) (L : List S71) (a2 a3 a4 a5 a6 a7 a8 a9 a10 a11 a12 : Int) (A : Option Addr) (c : Nat) (l : List S37) (g : Int) (w : World) (hN : NetAt w P A0 c0 L A1 c1) (hC : Kd.C k37 w A l.length l) (hl : l.length ≤ 1000) (hx : ∀ x ∈ l, x.f0.length ≤ 1000 ∧ x.f1.f2.length ≤ 1000000)
  (hG : ∀ W : World, NetAt W P A0 c0 L A1 c1 → Calls Tryz.prog 30 #[.agg #[.slice A0 P.length c0, .slice A1 L.length c1, .int .i64 a2, .int .i64 a3, .int .i64 a4, .int .i64 a5, .int .i64 a6, .int .i64 a7, .int .i64 a8, .int .i64 a9, .int .i64 a10, .int .i64 a11, .int .i64 a12]] W fun e w' => e = .returned (.int .i64 g) ∧ Below W.heap.size W w') :
  Calls Tryz.prog 10 #[.agg #[.slice A0 P.length c0, .slice A1 L.length c1, .int .i64 a2, .int .i64 a3, .int .i64 a4, .int .i64 a5, .int .i64 a6, .int .i64 a7, .int .i64 a8, .int .i64 a9, .int .i64 a10, .int .i64 a11, .int .i64 a12], .slice A l.length c] w fun e w' => e = .returned (.tuple #[.int .i64 (rbC g (-1) 0 l).1, .bool (rbC g (-1) 0 l).2]) ∧ Below w.heap.size w w' := by
 have HN := am hN
 have HC := am hC
 have HL := am hl
 have HX := am hx
 have HG := am hG
 clear hN hC hl hx hG
 obtain ⟨R, hR⟩ : ∃ R, rbC g (-1) 0 l = R := ⟨_, rfl⟩
 have HR : Aside0 (rbC g (-1) 0 (l.drop 0) = R) := ⟨hR⟩
 rw [hR]
 clear hR
 have BC := am (heap_alloc_new w (.cells #[.slice A0 P.length c0, .slice A1 L.length c1, .int .i64 a2, .int .i64 a3, .int .i64 a4, .int .i64 a5, .int .i64 a6, .int .i64 a7, .int .i64 a8, .int .i64 a9, .int .i64 a10, .int .i64 a11, .int .i64 a12] 25))
 have HB := am (below_alloc (Below.refl w.heap.size w) (.cells #[.slice A0 P.length c0, .slice A1 L.length c1, .int .i64 a2, .int .i64 a3, .int .i64 a4, .int .i64 a5, .int .i64 a6, .int .i64 a7, .int .i64 a8, .int .i64 a9, .int .i64 a10, .int .i64 a11, .int .i64 a12] 25))
 go_enter Tryz.func10, Tryz.ntmps10
 go_wp2_with fail
 generalize w.alloc (.cells #[.slice A0 P.length c0, .slice A1 L.length c1, .int .i64 a2, .int .i64 a3, .int .i64 a4, .int .i64 a5, .int .i64 a6, .int .i64 a7, .int .i64 a8, .int .i64 a9, .int .i64 a10, .int .i64 a11, .int .i64 a12] 25) = w1 at *
 obtain ⟨bC, hbC⟩ : ∃ bC, bC = w.heap.size := ⟨_, rfl⟩
 rw [← hbC] at BC
 rw [← hbC]
 clear hbC
 go_loopg [6, 7, 8] (l.length + 1) (fun kq v6 v7 v8 wr => ∃ (k : Nat) (r cy : Int), v8 = .int .i64 k ∧ v6 = .int .i64 r ∧ v7 = .int .i64 cy ∧ Aside0 (kq + k = l.length + 1 ∧ k ≤ l.length) ∧ Aside0 (rbC g r cy (l.drop k) = R) ∧ Aside0 (Below w.heap.size w wr) ∧ Aside0 (wr.heap[bC]? = some (.cells #[.slice A0 P.length c0, .slice A1 L.length c1, .int .i64 a2, .int .i64 a3, .int .i64 a4, .int .i64 a5, .int .i64 a6, .int .i64 a7, .int .i64 a8, .int .i64 a9, .int .i64 a10, .int .i64 a11, .int .i64 a12] 25 (0, 0))))
 case atStart => exact ⟨0, -1, 0, rfl, rfl, rfl, ⟨by omega⟩, HR, HB, BC⟩
 case round =>
  clear HB BC HR
  obtain ⟨k, r, cy, rfl, rfl, rfl, HK, HR, HB, BC⟩ := hrel
  cases gk with
  | zero => exact absurd HK.out (by omega)
  | succ k1 =>
  have hlL := HL.out
  by_cases hk : k < l.length
  ·have d1 : decide (k < l.length) = true := dT hk
   have HLK := am hlL
   obtain ⟨ad, Ai, ci, Aj, cj, e, y0, y1, y2, y3, hc5, hC5, hc6, hC6⟩ := at_T37 HC.out (k : Int) (by omega) (by omega)
   cases e
   have hrd : rd_T37 l (k : Int) = l[k] := by simp [rd_T37, hk]
   have hy : l[k] ∈ l := List.getElem_mem hk
   rw [hrd] at y0 y1 y2 y3 hc5 hC5 hc6 hC6
   have HXk := am (HX.out _ hy)
   have hdr := List.drop_eq_getElem_cons hk
   obtain ⟨y, hyy⟩ : ∃ y, y = l[k] := ⟨_, rfl⟩
   rw [← hyy] at y0 y1 y2 y3 hc5 hC5 hc6 hC6 HXk hdr
   rw [hdr] at HR
   have H5 := am (And.intro (And.intro hC5 hc5) (And.intro hC6 hc6))
   simp only [Int.toNat_natCast] at y0 y1 y2 y3
   have z0 := (HB.out.cell (c_lt y0)).trans y0
   have z1 := (HB.out.cell (c_lt y1)).trans y1
   have z2 := (HB.out.cell (c_lt y2)).trans y2
   have z3 := (HB.out.cell (c_lt y3)).trans y3
   clear y0 y1 y2 y3 hc5 hC5 hc6 hC6 hy hrd hdr hyy
   go_wp2_with fail
   refine (rsynced_walk Ai ci y.f0 y.f1.f0 y.f1.f1 Aj cj y.f1.f2 wr (Kd.C_below H5.out.1.1 HB.out) H5.out.1.2 (Kd.C_below H5.out.2.1 HB.out) H5.out.2.2 HXk.out.1).mono ?_
   rintro e w3 ⟨A9, c9, rfl, hc9, hC9, hb⟩
   have HB_ := am (below_step HB.out hb)
   have BC_ := am ((hb.block bC (blk_lt BC.out)).trans BC.out)
   clear HB BC
   have HB := HB_
   have BC := BC_
   clear HB_ BC_
   clear hb z0 z1 z2 z3 d1
   have hsl := Nat.le_trans (syn_len y.f0) HXk.out.1
   have HR2 : Aside0 ((if (syn y.f0).isEmpty = true then (-1, false) else rbK g (l.drop (k + 1)) (rbN g r cy (syn y.f0))) = R) := ⟨by rw [← HR.out]; show _ = (if (syn y.f0).isEmpty = true then _ else _); cases rbN g r cy (syn y.f0) <;> rfl⟩
   clear HR
   generalize syn y.f0 = s at *
   have HS9 := am (And.intro hC9 hc9)
   have HSL := am hsl
   clear hC9 hc9 hsl
   by_cases he : s = []
   ·have e0 : ((s.length : Int) == 0) = true := by simp [he]
    have HR3 : Aside0 (((-1 : Int), false) = R) := ⟨by rw [← HR2.out, he]; rfl⟩
    clear he
    go_wp2_with fail
    go_ret2
    refine ⟨?_, HB.out⟩
    rw [← HR3.out]
    rfl
   ·have e0 : ((s.length : Int) == 0) = false := by have := List.length_pos_iff.2 he; exact beq_eq_false_iff_ne.mpr (by omega)
    have HR3 : Aside0 (rbK g (l.drop (k + 1)) (rbN g r cy (s.drop 0)) = R) := ⟨by rw [← HR2.out]; cases s with
     | nil => exact absurd rfl he
     | cons _ _ => rfl⟩
    clear he HR2
    go_wp2_with fail
    clear e0
    have hkk := hk
    clear hk
    go_loopg [6, 7, 10, 11] (s.length + 1) (fun kq v6 v7 v10 _ wr => ∃ (j : Nat) (r cy : Int), v10 = .int .i64 j ∧ v6 = .int .i64 r ∧ v7 = .int .i64 cy ∧ Aside0 (kq + j = s.length + 1 ∧ j ≤ s.length) ∧ Aside0 (rbK g (l.drop (k + 1)) (rbN g r cy (s.drop j)) = R) ∧ Aside0 (Below w.heap.size w wr ∧ Below w3.heap.size w3 wr) ∧ Aside0 (wr.heap[bC]? = some (.cells #[.slice A0 P.length c0, .slice A1 L.length c1, .int .i64 a2, .int .i64 a3, .int .i64 a4, .int .i64 a5, .int .i64 a6, .int .i64 a7, .int .i64 a8, .int .i64 a9, .int .i64 a10, .int .i64 a11, .int .i64 a12] 25 (0, 0))))
    case atStart => exact ⟨0, r, cy, rfl, rfl, rfl, ⟨by omega⟩, HR3, ⟨HB.out, Below.refl _ _⟩, BC⟩
    case round =>
     clear HB BC HR3
     obtain ⟨j, r, cy, rfl, rfl, rfl, HJ, HR, HBB, BC⟩ := hrel
     have HB := am HBB.out.1
     have HB3 := am HBB.out.2
     clear HBB
     cases gk with
     | zero => exact absurd HJ.out (by omega)
     | succ k2 =>
     have hsL := HSL.out
     by_cases hj : j < s.length
     ·have d1 : decide (j < s.length) = true := dT hj
      obtain ⟨ad9, A5, c5, e, _, _, _, _, y4, y5, _, _, hc5, hC5⟩ := at_T55 (Kd.C_below HS9.out.1 HB3.out) (j : Int) (by omega) (by omega)
      cases e
      have hrd : rd_T55 s (j : Int) = s[j] := by simp [rd_T55, hj]
      have hdr := List.drop_eq_getElem_cons hj
      rw [hrd] at y4 y5 hc5 hC5
      generalize s[j] = z at *
      rw [hdr] at HR
      simp only [Int.toNat_natCast] at y4 y5
      have HD5 := am (And.intro hC5 hc5)
      obtain ⟨kr, hkr⟩ := (Rt.rroot_evl z.f5 g).some_
      have HKR := am hkr
      have HR2 : Aside0 ((if rbBad r cy (Rt.root z.f5 g) z.f4 = true then (-1, false) else rbK g (l.drop (k + 1)) (rbN g (Rt.root z.f5 g) z.f4 (s.drop (j + 1)))) = R) := ⟨by rw [← HR.out]; show _ = rbK g _ (if rbBad r cy (Rt.root z.f5 g) z.f4 = true then none else _); cases rbBad r cy (Rt.root z.f5 g) z.f4 <;> rfl⟩
      clear hrd hdr HR hC5 hc5 hkr
      generalize Rt.root z.f5 g = rt at *
      obtain ⟨n0, n1, n2, n3, n4, n5, n6, n7, n8, n9, n10, n11, n12⟩ := cellsK13 BC.out
      go_upto_region 11 with fail
      have dd0 : wr.drew.cell? ⟨bC, 0, none⟩ = some (.slice A0 P.length c0) := n0
      have dd1 : wr.drew.cell? ⟨bC, 1, none⟩ = some (.slice A1 L.length c1) := n1
      have dd2 : wr.drew.cell? ⟨bC, 2, none⟩ = some (.int .i64 a2) := n2
      have dd3 : wr.drew.cell? ⟨bC, 3, none⟩ = some (.int .i64 a3) := n3
      have dd4 : wr.drew.cell? ⟨bC, 4, none⟩ = some (.int .i64 a4) := n4
      have dd5 : wr.drew.cell? ⟨bC, 5, none⟩ = some (.int .i64 a5) := n5
      have dd6 : wr.drew.cell? ⟨bC, 6, none⟩ = some (.int .i64 a6) := n6
      have dd7 : wr.drew.cell? ⟨bC, 7, none⟩ = some (.int .i64 a7) := n7
      have dd8 : wr.drew.cell? ⟨bC, 8, none⟩ = some (.int .i64 a8) := n8
      have dd9 : wr.drew.cell? ⟨bC, 9, none⟩ = some (.int .i64 a9) := n9
      have dd10 : wr.drew.cell? ⟨bC, 10, none⟩ = some (.int .i64 a10) := n10
      have dd11 : wr.drew.cell? ⟨bC, 11, none⟩ = some (.int .i64 a11) := n11
      have dd12 : wr.drew.cell? ⟨bC, 12, none⟩ = some (.int .i64 a12) := n12
      have dd13 : wr.drew.cell? ⟨(ad9.add (j * 8)).block, (ad9.add (j * 8)).off + 5, none⟩ = some (.slice A5 z.f5.length c5) := y5
      have dd14 : wr.drew.cell? ⟨(ad9.add (j * 8)).block, (ad9.add (j * 8)).off + 4, none⟩ = some (.int .i64 z.f4) := y4
      refine start_ (n := 9) (S := fun w' => w'.cell? ⟨bC, 0, none⟩ = some (.slice A0 P.length c0) ∧ w'.cell? ⟨bC, 1, none⟩ = some (.slice A1 L.length c1) ∧ w'.cell? ⟨bC, 2, none⟩ = some (.int .i64 a2) ∧ w'.cell? ⟨bC, 3, none⟩ = some (.int .i64 a3) ∧ w'.cell? ⟨bC, 4, none⟩ = some (.int .i64 a4) ∧ w'.cell? ⟨bC, 5, none⟩ = some (.int .i64 a5) ∧ w'.cell? ⟨bC, 6, none⟩ = some (.int .i64 a6) ∧ w'.cell? ⟨bC, 7, none⟩ = some (.int .i64 a7) ∧ w'.cell? ⟨bC, 8, none⟩ = some (.int .i64 a8) ∧ w'.cell? ⟨bC, 9, none⟩ = some (.int .i64 a9) ∧ w'.cell? ⟨bC, 10, none⟩ = some (.int .i64 a10) ∧ w'.cell? ⟨bC, 11, none⟩ = some (.int .i64 a11) ∧ w'.cell? ⟨bC, 12, none⟩ = some (.int .i64 a12) ∧ w'.cell? ⟨(ad9.add (j * 8)).block, (ad9.add (j * 8)).off + 5, none⟩ = some (.slice A5 z.f5.length c5) ∧ w'.cell? ⟨(ad9.add (j * 8)).block, (ad9.add (j * 8)).off + 4, none⟩ = some (.int .i64 z.f4)) (ds := []) #[false, false, false, false, false, false, false, false, false] (by kernel_rfl) rfl rfl ⟨dd0, dd1, dd2, dd3, dd4, dd5, dd6, dd7, dd8, dd9, dd10, dd11, dd12, dd13, dd14⟩ (fun hHeld => ?_)
      refine pu 0 32 ?_
      refine pu 1 33 ?_
      refine pu 2 34 ?_
      refine pu 3 35 ?_
      refine tk15 4 36 ?_
      refine tk15 5 37 ?_
      refine on 6 38 (fun K hK => ?_)
      refine goes_ Tryz.func30 (by kernel_rfl) rfl #[.agg #[.slice A0 P.length c0, .slice A1 L.length c1, .int .i64 a2, .int .i64 a3, .int .i64 a4, .int .i64 a5, .int .i64 a6, .int .i64 a7, .int .i64 a8, .int .i64 a9, .int .i64 a10, .int .i64 a11, .int .i64 a12]] (by rfl) rfl rfl lm ?_
      with_reducible refine (HG.out _ (HN.out.below HB.out.drew)).mono ?_
      rintro e w11 ⟨rfl, hb11⟩
      have HB11 := am (below_step HB.out.drew hb11)
      have BC11 := am ((hb11.block bC (blk_lt BC.out)).trans (blk_drew BC.out))
      have H311 := am (below_step HB3.out.drew hb11)
      have HW11 := am (below_step (Below.refl wr.heap.size wr).drew hb11)
      have q0 := (hb11.cell (c_lt dd0)).trans dd0
      have q1 := (hb11.cell (c_lt dd1)).trans dd1
      have q2 := (hb11.cell (c_lt dd2)).trans dd2
      have q3 := (hb11.cell (c_lt dd3)).trans dd3
      have q4 := (hb11.cell (c_lt dd4)).trans dd4
      have q5 := (hb11.cell (c_lt dd5)).trans dd5
      have q6 := (hb11.cell (c_lt dd6)).trans dd6
      have q7 := (hb11.cell (c_lt dd7)).trans dd7
      have q8 := (hb11.cell (c_lt dd8)).trans dd8
      have q9 := (hb11.cell (c_lt dd9)).trans dd9
      have q10 := (hb11.cell (c_lt dd10)).trans dd10
      have q11 := (hb11.cell (c_lt dd11)).trans dd11
      have q12 := (hb11.cell (c_lt dd12)).trans dd12
      have q13 := (hb11.cell (c_lt dd13)).trans dd13
      have q14 := (hb11.cell (c_lt dd14)).trans dd14
      clear hb11
      refine ⟨_, rfl, ?_⟩
      clear hHeld
      refine hK.out _ _ ⟨q0, q1, q2, q3, q4, q5, q6, q7, q8, q9, q10, q11, q12, q13, q14⟩ (fun hHeld => ?_)
      clear hK K
      refine norm_ (a' := ?_) ?_ ?_
      rotate_left
      ·show Act.put _ (some 38) _ = _
       simp only [Act.put, sAa, sBb, sCc, i64_w, i32_w]
       rfl
      refine on 7 39 (fun K hK => ?_)
      refine goes_ Tryz.func29 (by kernel_rfl) rfl #[.slice A5 z.f5.length c5, .int .i64 g] (by rfl) rfl rfl lm ?_
      with_reducible refine (dr10_Root.calls kr A5 c5 z.f5 g rt _ (Kd.C_below HD5.out.1 HW11.out) HD5.out.2 HKR.out).mono ?_
      rintro e w12 ⟨rfl, hb12⟩
      have HB12 := am (below_step HB11.out hb12)
      have BC12 := am ((hb12.block bC (blk_lt BC11.out)).trans BC11.out)
      have H312 := am (below_step H311.out hb12)
      have r0 := (hb12.cell (c_lt q0)).trans q0
      have r1 := (hb12.cell (c_lt q1)).trans q1
      have r2 := (hb12.cell (c_lt q2)).trans q2
      have r3 := (hb12.cell (c_lt q3)).trans q3
      have r4 := (hb12.cell (c_lt q4)).trans q4
      have r5 := (hb12.cell (c_lt q5)).trans q5
      have r6 := (hb12.cell (c_lt q6)).trans q6
      have r7 := (hb12.cell (c_lt q7)).trans q7
      have r8 := (hb12.cell (c_lt q8)).trans q8
      have r9 := (hb12.cell (c_lt q9)).trans q9
      have r10 := (hb12.cell (c_lt q10)).trans q10
      have r11 := (hb12.cell (c_lt q11)).trans q11
      have r12 := (hb12.cell (c_lt q12)).trans q12
      have r13 := (hb12.cell (c_lt q13)).trans q13
      have r14 := (hb12.cell (c_lt q14)).trans q14
      clear hb12
      refine ⟨_, rfl, ?_⟩
      clear hHeld
      refine hK.out _ _ ⟨r0, r1, r2, r3, r4, r5, r6, r7, r8, r9, r10, r11, r12, r13, r14⟩ (fun hHeld => ?_)
      clear hK K
      refine norm_ (a' := ?_) ?_ ?_
      rotate_left
      ·show Act.put _ (some 39) _ = _
       simp only [Act.put, sAa, sBb, sCc, i64_w, i32_w]
       rfl
      refine pu 8 11 ?_
      refine done_ (by kernel_rfl) ?_
      clear hHeld
      have x4 := r14
      clear dd0 q0 r0 dd1 q1 r1 dd2 q2 r2 dd3 q3 r3 dd4 q4 r4 dd5 q5 r5 dd6 q6 r6 dd7 q7 r7 dd8 q8 r8 dd9 q9 r9 dd10 q10 r10 dd11 q11 r11 dd12 q12 r12 dd13 q13 r13 dd14 q14 r14
      clear n0 n1 n2 n3 n4 n5 n6 n7 n8 n9 n10 n11 n12 y4 y5 HB BC HB3 HB11 BC11 H311
      have HB := HB12
      have BC := BC12
      have HB3 := H312
      clear HB12 BC12 H312
      go_upto_region 12 with fail
      go_cut [59] (fun s59 wx => s59 = .bool (rbBad r cy rt z.f4) ∧ wx = w12)
      case first =>
       have hbe : rbBad r cy rt z.f4 = (decide (rt < 0) || (decide (0 ≤ r) && ((rt != r) || (z.f4 != cy)))) := rfl
       have HBE := am hbe
       clear hbe
       by_cases h1 : rt < 0
       ·have b1 : decide (rt < 0) = true := dT h1
        go_wp2_with fail
        go_meet
        exact ⟨by rw [HBE.out, b1]; rfl, rfl⟩
       ·have b1 : decide (rt < 0) = false := dF h1
        by_cases h2 : 0 ≤ r
        ·have b2 : decide (0 ≤ r) = true := dT h2
         by_cases h3 : rt = r
         ·have b3 : (rt != r) = false := by simp [h3]
          clear h3
          by_cases h4 : z.f4 = cy
          ·have b4 : (z.f4 != cy) = false := by simp [h4]
           clear h4
           go_wp2_with fail
           go_meet
           exact ⟨by rw [HBE.out, b1, b2, b3, b4]; rfl, rfl⟩
          ·have b4 : (z.f4 != cy) = true := by simp [h4]
           go_wp2_with fail
           go_meet
           exact ⟨by rw [HBE.out, b1, b2, b3, b4]; rfl, rfl⟩
         ·have b3 : (rt != r) = true := by simp [h3]
          go_wp2_with fail
          go_meet
          exact ⟨by rw [HBE.out, b1, b2, b3]; rfl, rfl⟩
        ·have b2 : decide (0 ≤ r) = false := dF h2
         go_wp2_with fail
         go_meet
         exact ⟨by rw [HBE.out, b1, b2]; rfl, rfl⟩
      case rest =>
       obtain ⟨rfl, rfl⟩ := hcut
       cases hbd : rbBad r cy rt z.f4 with
       | true =>
        rw [hbd] at HR2
        go_wp2_with fail
        go_ret2
        refine ⟨?_, HB.out⟩
        rw [← HR2.out]
        rfl
       | false =>
        rw [hbd] at HR2
        have HRn : Aside0 (rbK g (l.drop (k + 1)) (rbN g rt z.f4 (s.drop (j + 1))) = R) := ⟨HR2.out⟩
        clear HR2
        go_wp2_with fail
        go_quiet (fail)
        go_wp2_with fail
        go_roundg k2
        case measure => have := HJ.out; omega
        case rel => exact ⟨j + 1, rt, z.f4, by first | rfl | (congr 1), rfl, rfl, ⟨by have := HJ.out; omega⟩, HRn, ⟨pw_below_drewN HB.out nq, pw_below_drewN HB3.out nq⟩, ⟨blk_drewN BC.out nq⟩⟩
     ·have d1 : decide (j < s.length) = false := dF hj
      have hjn : s.drop j = [] := List.drop_eq_nil_iff.2 (by omega)
      rw [hjn] at HR
      have HRn : Aside0 (rbC g r cy (l.drop (k + 1)) = R) := ⟨HR.out⟩
      clear hjn HR hj
      have hkl := HLK.out
      go_wp2_with fail
      go_roundg k1
      case measure => have := HK.out; omega
      case rel => exact ⟨k + 1, r, cy, by first | rfl | (congr 1), rfl, rfl, ⟨by have := HK.out; omega⟩, HRn, HB, BC⟩
  ·have d1 : decide (k < l.length) = false := dF hk
   have hkn : l.drop k = [] := List.drop_eq_nil_iff.2 (by omega)
   rw [hkn] at HR
   clear hkn hk
   go_wp2_with fail
   go_ret2
   refine ⟨?_, HB.out⟩
   rw [← HR.out]
   rfl
set_option linter.unusedVariables false
set_option linter.unusedSimpArgs false
open Go.RowKit Go.Proofs.YtbefbhghmommhaaGreatDoorW.PrintWords
theorem rbN_append (g : Int) : ∀ (a : List S55) (r cy : Int) (b : List S55), rbN g r cy (a ++ b) = (rbN g r cy a).bind fun s => rbN g s.1 s.2 b
 | [], _, _, _ => rfl
 | x :: t, r, cy, b => by
  show (if rbBad r cy (Rt.root x.f5 g) x.f4 = true then none else rbN g (Rt.root x.f5 g) x.f4 (t ++ b)) = (if rbBad r cy (Rt.root x.f5 g) x.f4 = true then none else rbN g (Rt.root x.f5 g) x.f4 t).bind _
  by_cases h : rbBad r cy (Rt.root x.f5 g) x.f4 = true
  ·rw [if_pos h, if_pos h]; rfl
  ·rw [if_neg h, if_neg h, rbN_append g t]
theorem rbC_all (g : Int) : ∀ (l : List S37) (r cy : Int), rbC g r cy l = if (l.any fun x => (syn x.f0).isEmpty) = true then (-1, false) else match rbN g r cy (allSyn l) with
  | none => (-1, false)
  | some s => (s.1, decide (0 ≤ s.1))
 | [], _, _ => rfl
 | x :: t, r, cy => by
  have e : allSyn (x :: t) = syn x.f0 ++ allSyn t := by simp [allSyn]
  rw [e, rbN_append, List.any_cons]
  show (if (syn x.f0).isEmpty = true then (-1, false) else match rbN g r cy (syn x.f0) with
   | none => (-1, false)
   | some s => rbC g s.1 s.2 t) = _
  by_cases h : (syn x.f0).isEmpty = true
  ·rw [if_pos h, h, Bool.true_or, if_pos rfl]
  ·rw [if_neg h]
   have h' : (syn x.f0).isEmpty = false := by simpa using h
   rw [h', Bool.false_or]
   cases hn : rbN g r cy (syn x.f0) with
   | none => dsimp only [Option.bind]; split <;> rfl
   | some s => exact rbC_all g t s.1 s.2
theorem rbN_on (g : Int) {r : Int} (hr : 0 ≤ r) (cy : Int) : ∀ (t : List S55), rbN g r cy t = if (t.any (offBase cy g r)) = true then none else some (r, cy)
 | [] => rfl
 | x :: t => by
  show (if rbBad r cy (Rt.root x.f5 g) x.f4 = true then none else rbN g (Rt.root x.f5 g) x.f4 t) = _
  have e : rbBad r cy (Rt.root x.f5 g) x.f4 = offBase cy g r x := by
   unfold rbBad offBase
   rw [dT hr, Bool.true_and]
   by_cases h4 : x.f4 = cy
   ·rw [if_pos h4, show (x.f4 != cy) = false by simp [h4], Bool.or_false]
    by_cases h5 : Rt.root x.f5 g < 0
    ·rw [dT h5, Bool.true_or]; symm; simp; omega
    ·rw [dF h5, Bool.false_or]
   ·rw [if_neg h4, show (x.f4 != cy) = true by simp [h4]]; simp
  rw [e, List.any_cons]
  by_cases h : offBase cy g r x = true
  ·rw [if_pos h, h, Bool.true_or, if_pos rfl]
  ·have h' : offBase cy g r x = false := by simpa using h
   rw [if_neg h, h', Bool.false_or]
   unfold offBase at h'
   by_cases h4 : x.f4 = cy
   ·rw [if_pos h4] at h'
    have h5 : Rt.root x.f5 g = r := by simpa using h'
    rw [h5, h4]
    exact rbN_on g hr cy t
   ·rw [if_neg h4] at h'; cases h'
theorem rb_base (g : Int) (l : List S37) : rbC g (-1) 0 l = baseV g l := by
 rw [rbC_all]
 unfold baseV
 split
 ·rfl
 ·cases allSyn l with
  | nil => rfl
  | cons y t =>
   show (match (if rbBad (-1) 0 (Rt.root y.f5 g) y.f4 = true then none else rbN g (Rt.root y.f5 g) y.f4 t) with
    | none => ((-1 : Int), false)
    | some s => (s.1, decide (0 ≤ s.1))) = if Rt.root y.f5 g < 0 then (-1, false) else if (y :: t).any (offBase y.f4 g (Rt.root y.f5 g)) = true then (-1, false) else (Rt.root y.f5 g, true)
   have e : rbBad (-1) 0 (Rt.root y.f5 g) y.f4 = decide (Rt.root y.f5 g < 0) := by unfold rbBad; simp
   rw [e]
   by_cases h : Rt.root y.f5 g < 0
   ·rw [if_pos (dT h), if_pos h]
   ·rw [if_neg (by simpa using h), if_neg h, rbN_on g (by omega), List.any_cons]
    have e2 : offBase y.f4 g (Rt.root y.f5 g) y = false := by unfold offBase; rw [if_pos rfl]; exact bne_self_eq_false _
    rw [e2, Bool.false_or]
    by_cases h2 : t.any (offBase y.f4 g (Rt.root y.f5 g)) = true
    ·rw [if_pos h2, if_pos h2]
    ·rw [if_neg h2, if_neg h2]
     show (_, decide (0 ≤ Rt.root y.f5 g)) = _
     rw [dT (by omega)]
end Go.Proofs.YtbefbhghmommhaaGreatDoor.MWo
namespace Go.Proofs.YtbefbhghmommhaaGreatDoor.MWo
open Go.RowKit Go.Proofs.YtbefbhghmommhaaGreatDoorW.PrintWords Go.Proofs.YtbefbhghmommhaaGreatDoorW.PrintLast Go.Proofs.YtbefbhghmommhaaGreatDoorW.PrintMore
attribute [local go_sem] mp_u32s mp_u32m mp_u8s mp_u8m max2_int min2_int max_two min_two max_three min_three max_four min_four
set_option linter.unusedVariables false
set_option linter.unusedSimpArgs false
def dr26_Agree.f (l0_0 : List S55) (a0_1 : Bool) (a0_2 : Int) (l0_3 : List Int) : Option Bool := if l0_0.length ≤ 1000 ∧ (l0_0.all fun x => decide (x.f5.length ≤ 1000000)) = true then some (agreeB l0_0) else none
theorem dr26_Agree.calls (A0_0 : Option Addr) (c0_0 : Nat) (l0_0 : List S55) (a0_1 : Bool) (a0_2 : Int) (A0_3 : Option Addr) (c0_3 : Nat) (l0_3 : List Int) (r : Bool) (w : World) (hr0_0 : Kd.C k55 w A0_0 l0_0.length l0_0) (hc0_0 : l0_0.length ≤ c0_0) (hr0_3 : Kd.C (Kd.int .i64) w A0_3 l0_3.length l0_3) (hc0_3 : l0_3.length ≤ c0_3) (h : dr26_Agree.f l0_0 a0_1 a0_2 l0_3 = some r) :
  Calls Tryz.prog 21 #[.agg #[.slice A0_0 l0_0.length c0_0, .bool a0_1, .int .i64 a0_2, .slice A0_3 l0_3.length c0_3]] w fun e w' => e = .returned (.bool r) ∧ Below w.heap.size w w' := by
 unfold dr26_Agree.f at h
 split at h
 ·rename_i hc
  injection h with h
  subst h
  exact ragree_walk A0_0 c0_0 l0_0 a0_1 a0_2 A0_3 c0_3 l0_3 w hr0_0 hc0_0 hr0_3 hc0_3 hc.1 (fun x hx => oT (List.all_eq_true.mp hc.2 x hx))
 ·cases h
end Go.Proofs.YtbefbhghmommhaaGreatDoor.MWo
