/- Texts of this claim, laid together by a program (wip/g/merge5.py): MWox11, MWox4, Hb, Hc, Hd, Hk. -/
import Derived.Test.YtbefbhghmommhaaGreatDoorZWd4
import Derived.Test.YtbefbhghmommhaaGreatDoorZWd5
import Derived.Test.YtbefbhghmommhaaGreatDoorZWd6
import Derived.Test.YtbefbhghmommhaaGreatDoorZWd14
import Derived.Deep.QuietTactic
namespace Go.Proofs.YtbefbhghmommhaaGreatDoor.MWo
open Go.RowKit Go.Proofs.YtbefbhghmommhaaGreatDoorW.PrintWords Go.Proofs.YtbefbhghmommhaaGreatDoorW.PrintLast Go.Proofs.YtbefbhghmommhaaGreatDoorW.PrintMore
attribute [local go_sem] mp_u32s mp_u32m mp_u8s mp_u8m max2_int min2_int max_two min_two max_three min_three max_four min_four
set_option linter.unusedVariables false
set_option linter.unusedSimpArgs false
def slices_Index_int_int.l0 : Nat → List Int → Int → Int → Int → Option (Int)
 | 0, _, _, _, _ => none
 | k + 1, x0, x1, x7, x8 => if x8 < x7 then (if 0 ≤ x8 then (if x8 < (x0.length : Int) then (if x1 = (rd x0 x8) then (some x8) else (slices_Index_int_int.l0 k x0 x1 x7 (wrap64 (x8 + 1)))) else (none)) else (none)) else (some (-1))
def slices_Index_int_int.f (k : Nat) (l0 : List Int) (a1 : Int) : Option (Int) := slices_Index_int_int.l0 k l0 a1 (l0.length : Int) 0
set_option maxHeartbeats 8000000 in
set_option maxRecDepth 100000 in
theorem slices_Index_int_int.calls (k : Nat) (A0 : Option Addr) (c0 : Nat) (l0 : List Int) (a1 : Int) (r : Int) (w : World) (hr0 : Kd.C (Kd.int .i64) w A0 l0.length l0) (hc0 : l0.length ≤ c0) (h : slices_Index_int_int.f k l0 a1 = some r) :
  Calls Tryz.prog 94 #[.slice A0 l0.length c0, .int .i64 a1] w fun e w' => e = .returned (.int .i64 r) ∧ Drawn0 w w' := by
 have HR0 := am hr0
 have HC0 := am hc0
 clear hr0 hc0
 have H : (slices_Index_int_int.l0 k l0 a1 (l0.length : Int) 0) = some r := h
 clear h
 have H' := am H
 clear H
 go_enter Tryz.func94, Tryz.ntmps94
 go_wp2
 go_loopg [8] k (fun kq v8 w' => ∃ (x8_1 : Int), v8 = .int .i64 x8_1 ∧ Aside0 (slices_Index_int_int.l0 kq l0 a1 (l0.length : Int) x8_1 = some r) ∧ Aside0 (kq ≤ k) ∧ Drawn0 w w')
 case atStart => exact ⟨(0), bx, H', ⟨Nat.le_refl _⟩, dn⟩
 case round =>
  clear H'
  try clear p2
  obtain ⟨x8_1, rfl, HA, HK1, ⟨m1, rfl⟩⟩ := hrel
  cases gk with
  | zero => exact absurd HA.out (by simp [slices_Index_int_int.l0])
  | succ k1 =>
   have H := HA.out
   clear HA
   simp only [slices_Index_int_int.l0] at H
   by_cases c3 : x8_1 < (l0.length : Int)
   ·rw [if_pos c3] at H
    have c3b0 : decide (x8_1 < (l0.length : Int)) = true := dT c3
    clear c3
    by_cases c4 : 0 ≤ x8_1
    ·rw [if_pos c4] at H
     have c4b0 : decide (0 ≤ x8_1) = true := dT c4
     clear c4
     by_cases c5 : x8_1 < (l0.length : Int)
     ·rw [if_pos c5] at H
      have c5b0 : decide (x8_1 < (l0.length : Int)) = true := dT c5
      clear c5
      by_cases c6 : a1 = (rd l0 x8_1)
      ·rw [if_pos c6] at H
       have c6b0 : (a1 == (rd l0 x8_1)) = true := beq_iff_eq.mpr c6
       have c6b1 : (a1 != (rd l0 x8_1)) = false := bne_eq_false_iff_eq.mpr c6
       clear c6
       obtain rfl := Option.some.inj H
       have p111 : 0 ≤ (x8_1 : Int) := oT asm
       have q111 : x8_1 < (l0.length : Int) := oT asm
       obtain ⟨ad111, e111, hx111_0⟩ := Kd.at_int HR0.out x8_1 p111 q111
       cases e111
       replace p111 := eq_true p111
       replace q111 := eq_true q111
       go_wp2
       go_ret
       exact ⟨sd, dn⟩
      ·rw [if_neg c6] at H
       have c6b0 : (a1 == (rd l0 x8_1)) = false := beq_eq_false_iff_ne.mpr c6
       have c6b1 : (a1 != (rd l0 x8_1)) = true := bne_iff_ne.mpr c6
       have H' := am H
       clear H
       have p111 : 0 ≤ (x8_1 : Int) := oT asm
       have q111 : x8_1 < (l0.length : Int) := oT asm
       obtain ⟨ad111, e111, hx111_0⟩ := Kd.at_int HR0.out x8_1 p111 q111
       cases e111
       replace p111 := eq_true p111
       replace q111 := eq_true q111
       go_wp2
       go_roundg k1
       case measure => have := HK1.out; omega
       case rel => exact ⟨(wrap64 (x8_1 + 1)), bx, H', ⟨by have := HK1.out; omega⟩, dn⟩
     ·rw [if_neg c5] at H
      exact absurd H (by simp)
    ·rw [if_neg c4] at H
     exact absurd H (by simp)
   ·rw [if_neg c3] at H
    have c3b0 : decide (x8_1 < (l0.length : Int)) = false := dF c3
    clear c3
    obtain rfl := Option.some.inj H
    go_wp2
    go_ret
    exact ⟨sd, dn⟩
def plan_index.f (a0 : Int) (a1 : Int) : Option (Bool) := if a0 ≥ 0 then (some (decide (a0 < a1))) else (some false)
set_option maxHeartbeats 8000000 in
set_option maxRecDepth 100000 in
theorem plan_index.calls (a0 : Int) (a1 : Int) (r : Bool) (w : World) (h : plan_index.f a0 a1 = some r) :
  Calls Tryz.prog 105 #[.int .i64 a0, .int .i64 a1] w fun e w' => e = .returned (.bool r) ∧ Drawn0 w w' := by
 have H : (if a0 ≥ 0 then (some (decide (a0 < a1))) else (some false)) = some r := h
 clear h
 by_cases c3 : a0 ≥ 0
 ·rw [if_pos c3] at H
  have c3b0 : decide (0 ≤ a0) = true := dT c3
  clear c3
  obtain rfl := Option.some.inj H
  go_enter Tryz.func105, Tryz.ntmps105
  go_wp2
  go_ret
  exact ⟨sd, dn⟩
 ·rw [if_neg c3] at H
  have c3b0 : decide (0 ≤ a0) = false := dF c3
  clear c3
  obtain rfl := Option.some.inj H
  go_enter Tryz.func105, Tryz.ntmps105
  go_wp2
  go_ret
  exact ⟨sd, dn⟩
end Go.Proofs.YtbefbhghmommhaaGreatDoor.MWo
set_option linter.unusedVariables false
set_option linter.unusedSimpArgs false
namespace Go.Proofs.YtbefbhghmommhaaGreatDoor.MWo
open Go.RowKit Go.Proofs.YtbefbhghmommhaaGreatDoorW.PrintWords Go.Proofs.YtbefbhghmommhaaGreatDoorW.PrintLast Go.Proofs.YtbefbhghmommhaaGreatDoorW.PrintMore
theorem idx_yes (a0 a1 : Int) (w : World) (h0 : 0 ≤ a0) (h1 : a0 < a1) : Calls Tryz.prog 105 #[.int .i64 a0, .int .i64 a1] w fun e w' => e = .returned (.bool true) ∧ Below w.heap.size w w' :=
 (plan_index.calls a0 a1 true w (by unfold plan_index.f; rw [if_pos h0, dT h1])).mono fun e w' h => ⟨h.1, h.2.below⟩
structure SideOk (P : List S68) (T : List S71) (part : Int) (p : S69) : Prop where
 ne : (p.f0 == p.f1) = false
 part0 : 0 ≤ part
 part1 : part < P.length
 n0 : 0 ≤ p.f0
 n1 : p.f0 < (rd_T68 P part).f0
 m0 : 0 ≤ p.f1
 m1 : p.f1 < (rd_T68 P part).f0
 t0 : T.any (takes part p.f0) = false
 t1 : T.any (takes part p.f1) = false
theorem taken_no (A1 : Option Addr) (c1 : Nat) (L : List S71) (i part node : Int) (w : World) (hr : Kd.C k71 w A1 L.length L) (hl : L.length ≤ 1000) (h0 : 0 ≤ i) (h1 : i ≤ L.length) (ht : (L.take i.toNat).any (takes part node) = false) :
  Calls Tryz.prog 114 #[.slice A1 i.toNat c1, .int .i64 part, .int .i64 node] w fun e w' => e = .returned (.bool false) ∧ Below w.heap.size w w' := by
 have hlen : (L.take i.toNat).length = i.toNat := by rw [List.length_take]; omega
 have h := taken_walk A1 c1 (L.take i.toNat) part node w (by exact Kd.C_take hr (show i.toNat ≤ L.length by omega)) (by rw [hlen]; omega)
 rw [hlen, ht] at h
 exact h
set_option maxHeartbeats 8000000 in
set_option maxRecDepth 4000 in
theorem ports_yes (A0 : Option Addr) (c0 : Nat) (P : List S68) (A1 : Option Addr) (c1 : Nat) (L : List S71) (a2 a3 a4 a5 a6 a7 a8 a9 a10 a11 a12 : Int) (i : Int) (x : S71) (w : World) (hr0 : Kd.C k68 w A0 P.length P) (hc0 : P.length ≤ c0) (hr1 : Kd.C k71 w A1 L.length L) (hc1 : L.length ≤ c1) (hL : L.length ≤ 1000) (hi0 : 0 ≤ i) (hi1 : i < L.length) (hx : rd_T71 L i = x)
  (hs0 : SideOk P (L.take i.toNat) x.f0 x.f2) (hs1 : SideOk P (L.take i.toNat) x.f1 x.f3) :
  Calls Tryz.prog 108 #[.agg #[.slice A0 P.length c0, .slice A1 L.length c1, .int .i64 a2, .int .i64 a3, .int .i64 a4, .int .i64 a5, .int .i64 a6, .int .i64 a7, .int .i64 a8, .int .i64 a9, .int .i64 a10, .int .i64 a11, .int .i64 a12], .int .i64 i] w fun e w' => e = .returned (.bool true) ∧ Below w.heap.size w w' := by
 have HR0 := am hr0
 have HR1 := am hr1
 have HC0 := am hc0
 have HC1 := am hc1
 have HS0 := am hs0
 have HS1 := am hs1
 have HX := am hx
 have HL := am hL
 have hic : i ≤ (c1 : Int) := by omega
 clear hr0 hr1 hc0 hc1 hs0 hs1 hx hL
 obtain ⟨ad1, e1, _⟩ := at_T71 HR1.out i hi0 hi1
 obtain ⟨ad0, e0, _⟩ := at_T68 HR0.out x.f0 HS0.out.part0 HS0.out.part1
 subst e0
 subst e1
 obtain ⟨a, b, ⟨p0, p1⟩, ⟨q0, q1⟩⟩ := x
 have p0_ := eq_true hi0
 have p1_ := eq_true hi1
 go_enter Tryz.func108, Tryz.ntmps108
 go_wp2_with fail
 have HO : Aside0 ((w.alloc (.cells #[.slice (some ad0) P.length c0, .slice (some ad1) L.length c1, .int .i64 a2, .int .i64 a3, .int .i64 a4, .int .i64 a5, .int .i64 a6, .int .i64 a7, .int .i64 a8, .int .i64 a9, .int .i64 a10, .int .i64 a11, .int .i64 a12] 25)).heap[w.heap.size]? = some (.cells #[.slice (some ad0) P.length c0, .slice (some ad1) L.length c1, .int .i64 a2, .int .i64 a3, .int .i64 a4, .int .i64 a5, .int .i64 a6, .int .i64 a7, .int .i64 a8, .int .i64 a9, .int .i64 a10, .int .i64 a11, .int .i64 a12] 25)) := ⟨heap_alloc_new _ _⟩
 have HB := am (below_alloc (Below.refl w.heap.size w) (Obj.cells #[.slice (some ad0) P.length c0, .slice (some ad1) L.length c1, .int .i64 a2, .int .i64 a3, .int .i64 a4, .int .i64 a5, .int .i64 a6, .int .i64 a7, .int .i64 a8, .int .i64 a9, .int .i64 a10, .int .i64 a11, .int .i64 a12] 25))
 generalize w.alloc (Obj.cells #[.slice (some ad0) P.length c0, .slice (some ad1) L.length c1, .int .i64 a2, .int .i64 a3, .int .i64 a4, .int .i64 a5, .int .i64 a6, .int .i64 a7, .int .i64 a8, .int .i64 a9, .int .i64 a10, .int .i64 a11, .int .i64 a12] 25) = wa at *
 obtain ⟨bx, hbx⟩ : ∃ bx, bx = w.heap.size := ⟨_, rfl⟩
 rw [← hbx]
 rw [← hbx] at HO
 have HBX := am hbx
 clear hbx
 go_loopg [10] 3 (fun kq v10 w' => ∃ k : Nat, v10 = .int .i64 k ∧ Aside0 (kq + k = 3) ∧ Aside0 (k ≤ 2) ∧ Aside0 (Below w.heap.size w w') ∧ Aside0 (w'.heap[bx]? = some (.cells #[.slice (some ad0) P.length c0, .slice (some ad1) L.length c1, .int .i64 a2, .int .i64 a3, .int .i64 a4, .int .i64 a5, .int .i64 a6, .int .i64 a7, .int .i64 a8, .int .i64 a9, .int .i64 a10, .int .i64 a11, .int .i64 a12] 25)))
 case atStart => exact ⟨0, rfl, ⟨by omega⟩, ⟨by omega⟩, HB, HO⟩
 case round =>
  clear HO HB
  obtain ⟨k, rfl, HK, HK2, HB, HO⟩ := hrel
  cases gk with
  | zero => exact absurd HK.out (by have := HK2.out; omega)
  | succ k1 =>
  rcases (show k = 0 ∨ k = 1 ∨ k = 2 from by have := HK2.out; omega) with e | e | e
  ·subst e
   obtain ⟨x0, x1, x2, x3, x4, x5, x6, x7, x8, x9, x10, x11, x12⟩ := cellsK13 HO.out
   obtain ⟨ad', e1, y0, y1, y2, y3, y4, y5⟩ := at_T71 (Kd.C_below HR1.out HB.out) i hi0 hi1
   have e1' := Option.some.inj e1
   subst e1'
   clear e1
   rw [HX.out] at y0 y1 y2 y3 y4 y5
   dsimp only at y0 y1 y2 y3 y4 y5
   have hne := HS0.out.ne
   dsimp only at hne
   go_wp2_with fail
   refine (plan_end.calls a b p0 p1 q0 q1 0 a p0 p1 _ rfl).mono ?_
   rintro e w1 ⟨rfl, hb⟩
   clear x0 x1 x2 x3 x4 x5 x6 x7 x8 x9 x10 x11 x12 y0 y1 y2 y3 y4 y5
   have HB1 := am (below_step HB.out hb)
   have HO1 := am ((hb.block bx (blk_lt HO.out)).trans HO.out)
   clear hb
   obtain ⟨x0, x1, x2, x3, x4, x5, x6, x7, x8, x9, x10, x11, x12⟩ := cellsK13 HO1.out
   go_wp2_with fail
   have HB2 := am (below_alloc HB1.out (Obj.cells #[.int .i64 p0, .int .i64 p1] 69))
   have HO2 := am (((below_alloc (Below.refl w1.heap.size w1) (Obj.cells #[.int .i64 p0, .int .i64 p1] 69)).block bx (blk_lt HO1.out)).trans HO1.out)
   clear x0 x1 x2 x3 x4 x5 x6 x7 x8 x9 x10 x11 x12
   generalize w1.alloc (Obj.cells #[.int .i64 p0, .int .i64 p1] 69) = w2 at *
   have hq0 := HS0.out.part0
   have hq1 := HS0.out.part1
   have hq0_ := eq_true hq0
   have hq1_ := eq_true hq1
   have ix0 : ∀ w : World, (Instr.index 69 (.agg #[.int .i64 p0, .int .i64 p1]) (.int .i64 0)).run Tryz.prog w = .ok (.int .i64 p0) w := fun _ => by kernel_rfl
   have ix1 : ∀ w : World, (Instr.index 69 (.agg #[.int .i64 p0, .int .i64 p1]) (.int .i64 1)).run Tryz.prog w = .ok (.int .i64 p1) w := fun _ => by kernel_rfl
   refine wp_loop_rounds 3 ?_
   rw [rounds_succ]
   obtain ⟨x0, x1, x2, x3, x4, x5, x6, x7, x8, x9, x10, x11, x12⟩ := cellsK13 HO2.out
   obtain ⟨ad', e0, z0, z1⟩ := at_T68 (Kd.C_below HR0.out HB2.out) a hq0 hq1
   have e0' := Option.some.inj e0
   subst e0'
   clear e0
   go_wp2_with fail
   refine (idx_yes _ _ _ HS0.out.n0 HS0.out.n1).mono ?_
   rintro e w3 ⟨rfl, hb⟩
   clear x0 x1 x2 x3 x4 x5 x6 x7 x8 x9 x10 x11 x12 z0 z1
   have HB3 := am (below_step HB2.out hb)
   have HO3 := am ((hb.block bx (blk_lt HO2.out)).trans HO2.out)
   clear hb
   obtain ⟨x0, x1, x2, x3, x4, x5, x6, x7, x8, x9, x10, x11, x12⟩ := cellsK13 HO3.out
   go_wp2_with fail
   refine (taken_no _ c1 L i a p0 _ (Kd.C_below HR1.out HB3.out) HL.out hi0 (by omega) HS0.out.t0).mono ?_
   rintro e w4 ⟨rfl, hb⟩
   clear x0 x1 x2 x3 x4 x5 x6 x7 x8 x9 x10 x11 x12
   have HB4 := am (below_step HB3.out hb)
   have HO4 := am ((hb.block bx (blk_lt HO3.out)).trans HO3.out)
   clear hb
   go_wp2_with fail
   rw [rounds_succ]
   obtain ⟨x0, x1, x2, x3, x4, x5, x6, x7, x8, x9, x10, x11, x12⟩ := cellsK13 HO4.out
   obtain ⟨ad', e0, z0, z1⟩ := at_T68 (Kd.C_below HR0.out HB4.out) a hq0 hq1
   have e0' := Option.some.inj e0
   subst e0'
   clear e0
   go_wp2_with fail
   refine (idx_yes _ _ _ HS0.out.m0 HS0.out.m1).mono ?_
   rintro e w5 ⟨rfl, hb⟩
   clear x0 x1 x2 x3 x4 x5 x6 x7 x8 x9 x10 x11 x12 z0 z1
   have HB5 := am (below_step HB4.out hb)
   have HO5 := am ((hb.block bx (blk_lt HO4.out)).trans HO4.out)
   clear hb
   obtain ⟨x0, x1, x2, x3, x4, x5, x6, x7, x8, x9, x10, x11, x12⟩ := cellsK13 HO5.out
   go_wp2_with fail
   refine (taken_no _ c1 L i a p1 _ (Kd.C_below HR1.out HB5.out) HL.out hi0 (by omega) HS0.out.t1).mono ?_
   rintro e w6 ⟨rfl, hb⟩
   clear x0 x1 x2 x3 x4 x5 x6 x7 x8 x9 x10 x11 x12
   have HB6 := am (below_step HB5.out hb)
   have HO6 := am ((hb.block bx (blk_lt HO5.out)).trans HO5.out)
   clear hb
   go_wp2_with fail
   rw [rounds_succ]
   go_wp2_with fail
   go_roundg k1
   case measure => have := HK.out; omega
   case rel => exact ⟨1, rfl, ⟨by have := HK.out; omega⟩, ⟨by omega⟩, HB6, HO6⟩
  ·subst e
   obtain ⟨x0, x1, x2, x3, x4, x5, x6, x7, x8, x9, x10, x11, x12⟩ := cellsK13 HO.out
   obtain ⟨ad', e1, y0, y1, y2, y3, y4, y5⟩ := at_T71 (Kd.C_below HR1.out HB.out) i hi0 hi1
   have e1' := Option.some.inj e1
   subst e1'
   clear e1
   rw [HX.out] at y0 y1 y2 y3 y4 y5
   dsimp only at y0 y1 y2 y3 y4 y5
   have hne := HS1.out.ne
   dsimp only at hne
   go_wp2_with fail
   refine (plan_end.calls a b p0 p1 q0 q1 1 b q0 q1 _ rfl).mono ?_
   rintro e w1 ⟨rfl, hb⟩
   clear x0 x1 x2 x3 x4 x5 x6 x7 x8 x9 x10 x11 x12 y0 y1 y2 y3 y4 y5
   have HB1 := am (below_step HB.out hb)
   have HO1 := am ((hb.block bx (blk_lt HO.out)).trans HO.out)
   clear hb
   obtain ⟨x0, x1, x2, x3, x4, x5, x6, x7, x8, x9, x10, x11, x12⟩ := cellsK13 HO1.out
   go_wp2_with fail
   have HB2 := am (below_alloc HB1.out (Obj.cells #[.int .i64 q0, .int .i64 q1] 69))
   have HO2 := am (((below_alloc (Below.refl w1.heap.size w1) (Obj.cells #[.int .i64 q0, .int .i64 q1] 69)).block bx (blk_lt HO1.out)).trans HO1.out)
   clear x0 x1 x2 x3 x4 x5 x6 x7 x8 x9 x10 x11 x12
   generalize w1.alloc (Obj.cells #[.int .i64 q0, .int .i64 q1] 69) = w2 at *
   have hq0 := HS1.out.part0
   have hq1 := HS1.out.part1
   have hq0_ := eq_true hq0
   have hq1_ := eq_true hq1
   have ix0 : ∀ w : World, (Instr.index 69 (.agg #[.int .i64 q0, .int .i64 q1]) (.int .i64 0)).run Tryz.prog w = .ok (.int .i64 q0) w := fun _ => by kernel_rfl
   have ix1 : ∀ w : World, (Instr.index 69 (.agg #[.int .i64 q0, .int .i64 q1]) (.int .i64 1)).run Tryz.prog w = .ok (.int .i64 q1) w := fun _ => by kernel_rfl
   refine wp_loop_rounds 3 ?_
   rw [rounds_succ]
   obtain ⟨x0, x1, x2, x3, x4, x5, x6, x7, x8, x9, x10, x11, x12⟩ := cellsK13 HO2.out
   obtain ⟨ad', e0, z0, z1⟩ := at_T68 (Kd.C_below HR0.out HB2.out) b hq0 hq1
   have e0' := Option.some.inj e0
   subst e0'
   clear e0
   go_wp2_with fail
   refine (idx_yes _ _ _ HS1.out.n0 HS1.out.n1).mono ?_
   rintro e w3 ⟨rfl, hb⟩
   clear x0 x1 x2 x3 x4 x5 x6 x7 x8 x9 x10 x11 x12 z0 z1
   have HB3 := am (below_step HB2.out hb)
   have HO3 := am ((hb.block bx (blk_lt HO2.out)).trans HO2.out)
   clear hb
   obtain ⟨x0, x1, x2, x3, x4, x5, x6, x7, x8, x9, x10, x11, x12⟩ := cellsK13 HO3.out
   go_wp2_with fail
   refine (taken_no _ c1 L i b q0 _ (Kd.C_below HR1.out HB3.out) HL.out hi0 (by omega) HS1.out.t0).mono ?_
   rintro e w4 ⟨rfl, hb⟩
   clear x0 x1 x2 x3 x4 x5 x6 x7 x8 x9 x10 x11 x12
   have HB4 := am (below_step HB3.out hb)
   have HO4 := am ((hb.block bx (blk_lt HO3.out)).trans HO3.out)
   clear hb
   go_wp2_with fail
   rw [rounds_succ]
   obtain ⟨x0, x1, x2, x3, x4, x5, x6, x7, x8, x9, x10, x11, x12⟩ := cellsK13 HO4.out
   obtain ⟨ad', e0, z0, z1⟩ := at_T68 (Kd.C_below HR0.out HB4.out) b hq0 hq1
   have e0' := Option.some.inj e0
   subst e0'
   clear e0
   go_wp2_with fail
   refine (idx_yes _ _ _ HS1.out.m0 HS1.out.m1).mono ?_
   rintro e w5 ⟨rfl, hb⟩
   clear x0 x1 x2 x3 x4 x5 x6 x7 x8 x9 x10 x11 x12 z0 z1
   have HB5 := am (below_step HB4.out hb)
   have HO5 := am ((hb.block bx (blk_lt HO4.out)).trans HO4.out)
   clear hb
   obtain ⟨x0, x1, x2, x3, x4, x5, x6, x7, x8, x9, x10, x11, x12⟩ := cellsK13 HO5.out
   go_wp2_with fail
   refine (taken_no _ c1 L i b q1 _ (Kd.C_below HR1.out HB5.out) HL.out hi0 (by omega) HS1.out.t1).mono ?_
   rintro e w6 ⟨rfl, hb⟩
   clear x0 x1 x2 x3 x4 x5 x6 x7 x8 x9 x10 x11 x12
   have HB6 := am (below_step HB5.out hb)
   have HO6 := am ((hb.block bx (blk_lt HO5.out)).trans HO5.out)
   clear hb
   go_wp2_with fail
   rw [rounds_succ]
   go_wp2_with fail
   go_roundg k1
   case measure => have := HK.out; omega
   case rel => exact ⟨2, rfl, ⟨by have := HK.out; omega⟩, ⟨by omega⟩, HB6, HO6⟩
  ·subst e
   go_wp2_with fail
   go_ret
   exact ⟨rfl, HB.out⟩
set_option linter.unusedVariables false
set_option linter.unusedSimpArgs false
def sameEnds (a b : Int) (x : S71) : Bool := x.f0 == a && x.f1 == b
set_option maxHeartbeats 4000000 in
set_option maxRecDepth 4000 in
theorem same_walk (a b p0 p1 q0 q1 : Int) (bl : Nat) (x : S71) (w : World) (h : w.heap[bl]? = some (.cells #[.int .i64 a, .int .i64 b, .int .i64 p0, .int .i64 p1, .int .i64 q0, .int .i64 q1] 71)) :
  Calls Tryz.prog 107 #[val71 x, .pointer (some ⟨bl, 0, none⟩)] w fun e w' => e = .returned (.bool (sameEnds a b x)) ∧ Below w.heap.size w w' := by
 obtain ⟨xa, xb, ⟨x0, x1⟩, ⟨x2, x3⟩⟩ := x
 have c0 : w.cell? ⟨bl, 0, none⟩ = some (.int .i64 a) := (blk_cell h 0).trans rfl
 have c1 : w.cell? ⟨bl, 1, none⟩ = some (.int .i64 b) := (blk_cell h 1).trans rfl
 have hlt := blk_lt h
 have hne : bl ≠ w.heap.size := by omega
 have hne2 : w.heap.size ≠ bl := by omega
 clear h
 have HS : sameEnds a b ⟨xa, xb, ⟨x0, x1⟩, ⟨x2, x3⟩⟩ = (xa == a && xb == b) := rfl
 rw [HS]
 clear HS
 cases h1 : (xa == a) with
 | false =>
  go_enter Tryz.func107, Tryz.ntmps107
  go_wp2_with fail
  go_ret
  exact ⟨rfl, by repeat (first | exact Below.refl _ _ | apply below_alloc)⟩
 | true =>
  cases h2 : (xb == b) with
  | false =>
   go_enter Tryz.func107, Tryz.ntmps107
   go_wp2_with fail
   go_ret
   exact ⟨rfl, by repeat (first | exact Below.refl _ _ | apply below_alloc)⟩
  | true =>
   go_enter Tryz.func107, Tryz.ntmps107
   go_wp2_with fail
   go_ret
   exact ⟨rfl, by repeat (first | exact Below.refl _ _ | apply below_alloc)⟩
theorem twice_no (a b p0 p1 q0 q1 : Int) (bl : Nat) (A1 : Option Addr) (c1 : Nat) (L : List S71) (i : Int) (w : World) (hr : Kd.C k71 w A1 L.length L) (hl : L.length ≤ 1000) (h0 : 0 ≤ i) (h1 : i ≤ L.length) (ht : (L.take i.toNat).any (sameEnds a b) = false)
  (h : w.heap[bl]? = some (.cells #[.int .i64 a, .int .i64 b, .int .i64 p0, .int .i64 p1, .int .i64 q0, .int .i64 q1] 71)) :
  Calls Tryz.prog 106 #[.slice A1 i.toNat c1, .func (.func 107) #[] #[.pointer (some ⟨bl, 0, none⟩)]] w fun e w' => e = .returned (.bool false) ∧ Below w.heap.size w w' := by
 have hlen : (L.take i.toNat).length = i.toNat := by rw [List.length_take]; omega
 have h := containsFunc (sameEnds a b) 107 #[.pointer (some ⟨bl, 0, none⟩)] (entersT Tryz.func107 (by kernel_rfl) rfl) A1 c1 (L.take i.toNat) w (Kd.C_take hr (show i.toNat ≤ L.length by omega)) (by rw [hlen]; omega)
  (fun W x hW => same_walk a b p0 p1 q0 q1 bl x W ((hW.block bl (blk_lt h)).trans h))
 rw [hlen, ht] at h
 exact h
structure LinkOk (P : List S68) (T : List S71) (x : S71) : Prop where
 a0 : 0 ≤ x.f0
 ab : x.f0 < x.f1
 b1 : x.f1 < P.length
 once : T.any (sameEnds x.f0 x.f1) = false
 s0 : SideOk P T x.f0 x.f2
 s1 : SideOk P T x.f1 x.f3
set_option maxHeartbeats 8000000 in
set_option maxRecDepth 4000 in
theorem links_yes (A0 : Option Addr) (c0 : Nat) (P : List S68) (A1 : Option Addr) (c1 : Nat) (L : List S71) (a2 a3 a4 a5 a6 a7 a8 a9 a10 a11 a12 : Int) (w : World) (hr0 : Kd.C k68 w A0 P.length P) (hc0 : P.length ≤ c0) (hr1 : Kd.C k71 w A1 L.length L) (hc1 : L.length ≤ c1) (hL : L.length ≤ 10) (hk : ∀ i : Int, 0 ≤ i → i < L.length → LinkOk P (L.take i.toNat) (rd_T71 L i)) :
  Calls Tryz.prog 93 #[.agg #[.slice A0 P.length c0, .slice A1 L.length c1, .int .i64 a2, .int .i64 a3, .int .i64 a4, .int .i64 a5, .int .i64 a6, .int .i64 a7, .int .i64 a8, .int .i64 a9, .int .i64 a10, .int .i64 a11, .int .i64 a12]] w fun e w' => e = .returned .nilIface ∧ Below w.heap.size w w' := by
 have HR0 := am hr0
 have HR1 := am hr1
 have HC0 := am hc0
 have HC1 := am hc1
 have HK0 := am hk
 have HL := am hL
 have hd : decide ((10 : Int) < (L.length : Int)) = false := dF (by omega)
 clear hr0 hr1 hc0 hc1 hk hL
 go_enter Tryz.func93, Tryz.ntmps93
 go_wp2_with fail
 have HO : Aside0 ((w.alloc (.cells #[.slice A0 P.length c0, .slice A1 L.length c1, .int .i64 a2, .int .i64 a3, .int .i64 a4, .int .i64 a5, .int .i64 a6, .int .i64 a7, .int .i64 a8, .int .i64 a9, .int .i64 a10, .int .i64 a11, .int .i64 a12] 25)).heap[w.heap.size]? = some (.cells #[.slice A0 P.length c0, .slice A1 L.length c1, .int .i64 a2, .int .i64 a3, .int .i64 a4, .int .i64 a5, .int .i64 a6, .int .i64 a7, .int .i64 a8, .int .i64 a9, .int .i64 a10, .int .i64 a11, .int .i64 a12] 25)) := ⟨heap_alloc_new _ _⟩
 have HB := am (below_alloc (Below.refl w.heap.size w) (Obj.cells #[.slice A0 P.length c0, .slice A1 L.length c1, .int .i64 a2, .int .i64 a3, .int .i64 a4, .int .i64 a5, .int .i64 a6, .int .i64 a7, .int .i64 a8, .int .i64 a9, .int .i64 a10, .int .i64 a11, .int .i64 a12] 25))
 generalize w.alloc (Obj.cells #[.slice A0 P.length c0, .slice A1 L.length c1, .int .i64 a2, .int .i64 a3, .int .i64 a4, .int .i64 a5, .int .i64 a6, .int .i64 a7, .int .i64 a8, .int .i64 a9, .int .i64 a10, .int .i64 a11, .int .i64 a12] 25) = wa at *
 obtain ⟨bx, hbx⟩ : ∃ bx, bx = w.heap.size := ⟨_, rfl⟩
 rw [← hbx]
 rw [← hbx] at HO
 have HBX := am hbx
 clear hbx hd
 go_loopg [13] (L.length + 1) (fun kq v13 w' => ∃ i : Int, v13 = .int .i64 i ∧ Aside0 (kq + i = L.length + 1 ∧ 0 ≤ i) ∧ Aside0 (Below w.heap.size w w') ∧ Aside0 (w'.heap[bx]? = some (.cells #[.slice A0 P.length c0, .slice A1 L.length c1, .int .i64 a2, .int .i64 a3, .int .i64 a4, .int .i64 a5, .int .i64 a6, .int .i64 a7, .int .i64 a8, .int .i64 a9, .int .i64 a10, .int .i64 a11, .int .i64 a12] 25)))
 case atStart => exact ⟨0, rfl, ⟨by omega⟩, HB, HO⟩
 case round =>
  clear HO HB
  obtain ⟨i, rfl, HK, HB, HO⟩ := hrel
  by_cases hi1 : i < (L.length : Int)
  ·have hi0 := HK.out.2
   obtain ⟨ad1, e1, y0, y1, y2, y3, y4, y5⟩ := at_T71 (Kd.C_below HR1.out HB.out) i hi0 hi1
   cases e1
   have HQ := am (HK0.out i hi0 hi1)
   obtain ⟨x, hx⟩ : ∃ x, rd_T71 L i = x := ⟨_, rfl⟩
   have HX := am hx
   rw [hx] at y0 y1 y2 y3 y4 y5 HQ
   clear hx
   obtain ⟨a, b, ⟨p0, p1⟩, ⟨q0, q1⟩⟩ := x
   have HQ' : Aside0 (0 ≤ a ∧ a < b ∧ b < (P.length : Int)) := ⟨HQ.out.a0, HQ.out.ab, HQ.out.b1⟩
   dsimp only at y0 y1 y2 y3 y4 y5
   have hlt : decide (i < (L.length : Int)) = true := dT hi1
   have p0_ := eq_true hi0
   have p1_ := eq_true hi1
   have hic : i ≤ (c1 : Int) := by have := HC1.out; omega
   have hw1 : wrap64 (i + 1) = i + 1 := by have := HL.out; unfold wrap64; omega
   have hge : decide (b ≤ a) = false := dF (by have := HQ'.out; omega)
   cases gk with
   | zero => exact absurd HK.out (by omega)
   | succ k1 =>
   obtain ⟨x0, x1, x2, x3, x4, x5, x6, x7, x8, x9, x10, x11, x12⟩ := cellsK13 HO.out
   go_upto_region 6 with fail
   have HB1 := am (below_alloc HB.out (Obj.cells #[.int .i64 a, .int .i64 b, .int .i64 p0, .int .i64 p1, .int .i64 q0, .int .i64 q1] 71))
   have HO1 := am (((below_alloc (Below.refl wr.heap.size wr) (Obj.cells #[.int .i64 a, .int .i64 b, .int .i64 p0, .int .i64 p1, .int .i64 q0, .int .i64 q1] 71)).block bx (blk_lt HO.out)).trans HO.out)
   have HLk1 : Aside0 ((wr.alloc (Obj.cells #[.int .i64 a, .int .i64 b, .int .i64 p0, .int .i64 p1, .int .i64 q0, .int .i64 q1] 71)).heap[wr.heap.size]? = some (Obj.cells #[.int .i64 a, .int .i64 b, .int .i64 p0, .int .i64 p1, .int .i64 q0, .int .i64 q1] 71)) := ⟨heap_alloc_new _ _⟩
   clear x0 x1 x2 x3 x4 x5 x6 x7 x8 x9 x10 x11 x12 y0 y1 y2 y3 y4 y5
   generalize wr.alloc (Obj.cells #[.int .i64 a, .int .i64 b, .int .i64 p0, .int .i64 p1, .int .i64 q0, .int .i64 q1] 71) = w1 at *
   generalize wr.heap.size = bl at *
   obtain ⟨x0, x1, x2, x3, x4, x5, x6, x7, x8, x9, x10, x11, x12⟩ := cellsK13 HO1.out
   obtain ⟨l0, l1, l2, l3, l4, l5⟩ := cellsK6 HLk1.out
   go_wp2_with fail
   refine (idx_yes a (P.length : Int) _ HQ'.out.1 (by have := HQ'.out; omega)).mono ?_
   rintro e w2 ⟨rfl, hb⟩
   clear x0 x1 x2 x3 x4 x5 x6 x7 x8 x9 x10 x11 x12 l0 l1 l2 l3 l4 l5
   have HB2 := am (below_step HB1.out hb)
   have HO2 := am ((hb.block bx (blk_lt HO1.out)).trans HO1.out)
   have HLk2 := am ((hb.block bl (blk_lt HLk1.out)).trans HLk1.out)
   clear hb
   obtain ⟨x0, x1, x2, x3, x4, x5, x6, x7, x8, x9, x10, x11, x12⟩ := cellsK13 HO2.out
   obtain ⟨l0, l1, l2, l3, l4, l5⟩ := cellsK6 HLk2.out
   go_wp2_with fail
   refine (idx_yes _ _ _ (show (0 : Int) ≤ b by have := HQ'.out; omega) HQ'.out.2.2).mono ?_
   rintro e w3 ⟨rfl, hb⟩
   clear x0 x1 x2 x3 x4 x5 x6 x7 x8 x9 x10 x11 x12 l0 l1 l2 l3 l4 l5
   have HB3 := am (below_step HB2.out hb)
   have HO3 := am ((hb.block bx (blk_lt HO2.out)).trans HO2.out)
   have HLk3 := am ((hb.block bl (blk_lt HLk2.out)).trans HLk2.out)
   clear hb
   obtain ⟨x0, x1, x2, x3, x4, x5, x6, x7, x8, x9, x10, x11, x12⟩ := cellsK13 HO3.out
   obtain ⟨l0, l1, l2, l3, l4, l5⟩ := cellsK6 HLk3.out
   go_wp2_with fail
   refine (twice_no a b p0 p1 q0 q1 bl _ c1 L i _ (Kd.C_below HR1.out HB3.out) (by have := HL.out; omega) hi0 (by omega) HQ.out.once HLk3.out).mono ?_
   rintro e w4 ⟨rfl, hb⟩
   clear x0 x1 x2 x3 x4 x5 x6 x7 x8 x9 x10 x11 x12 l0 l1 l2 l3 l4 l5
   have HB4 := am (below_step HB3.out hb)
   have HO4 := am ((hb.block bx (blk_lt HO3.out)).trans HO3.out)
   have HLk4 := am ((hb.block bl (blk_lt HLk3.out)).trans HLk3.out)
   clear hb
   obtain ⟨x0, x1, x2, x3, x4, x5, x6, x7, x8, x9, x10, x11, x12⟩ := cellsK13 HO4.out
   obtain ⟨l0, l1, l2, l3, l4, l5⟩ := cellsK6 HLk4.out
   go_wp2_with fail
   refine (ports_yes A0 c0 P (some ad1) c1 L a2 a3 a4 a5 a6 a7 a8 a9 a10 a11 a12 i ⟨a, b, ⟨p0, p1⟩, ⟨q0, q1⟩⟩ _ (Kd.C_below HR0.out HB4.out) HC0.out (Kd.C_below HR1.out HB4.out) HC1.out (by have := HL.out; omega) hi0 hi1 HX.out HQ.out.s0 HQ.out.s1).mono ?_
   rintro e w5 ⟨rfl, hb⟩
   clear x0 x1 x2 x3 x4 x5 x6 x7 x8 x9 x10 x11 x12 l0 l1 l2 l3 l4 l5
   have HB5 := am (below_step HB4.out hb)
   have HO5 := am ((hb.block bx (blk_lt HO4.out)).trans HO4.out)
   have HLk5 := am ((hb.block bl (blk_lt HLk4.out)).trans HLk4.out)
   clear hb
   go_wp2_with fail
   go_roundg k1
   case measure => have := HK.out; omega
   case rel => exact ⟨i + 1, (by first | rfl | rw [hw1]), ⟨by have := HK.out; omega⟩, HB5, HO5⟩
  ·have hlt : decide (i < (L.length : Int)) = false := dF hi1
   go_wp2_with fail
   go_ret
   exact ⟨rfl, HB.out⟩
def PartOk (p : S68) : Prop := 1 ≤ p.f0 ∧ p.f0 ≤ 12 ∧ 0 ≤ p.f1 ∧ p.f1 ≤ 3 ∧ 3 * p.f1 + 1 ≤ p.f0
set_option maxHeartbeats 8000000 in
set_option maxRecDepth 4000 in
theorem parts_yes (A0 : Option Addr) (c0 : Nat) (P : List S68) (A1 : Option Addr) (c1 : Nat) (L : List S71) (a2 a3 a4 a5 a6 a7 a8 a9 a10 a11 a12 : Int) (w : World) (hr0 : Kd.C k68 w A0 P.length P) (hc0 : P.length ≤ c0) (hr1 : Kd.C k71 w A1 L.length L) (hc1 : L.length ≤ c1) (h1 : 1 ≤ P.length) (h6 : P.length ≤ 6) (hk : ∀ i : Int, 0 ≤ i → i < P.length → PartOk (rd_T68 P i)) :
  Calls Tryz.prog 92 #[.agg #[.slice A0 P.length c0, .slice A1 L.length c1, .int .i64 a2, .int .i64 a3, .int .i64 a4, .int .i64 a5, .int .i64 a6, .int .i64 a7, .int .i64 a8, .int .i64 a9, .int .i64 a10, .int .i64 a11, .int .i64 a12]] w fun e w' => e = .returned .nilIface ∧ Below w.heap.size w w' := by
 have HR0 := am hr0
 have HK0 := am hk
 have HL := am h6
 have hd1 : decide ((P.length : Int) < 1) = false := dF (by omega)
 have hd6 : decide ((6 : Int) < (P.length : Int)) = false := dF (by omega)
 clear hr0 hr1 hc0 hc1 hk h1 h6
 go_enter Tryz.func92, Tryz.ntmps92
 go_wp2_with fail
 have HO : Aside0 ((w.alloc (.cells #[.slice A0 P.length c0, .slice A1 L.length c1, .int .i64 a2, .int .i64 a3, .int .i64 a4, .int .i64 a5, .int .i64 a6, .int .i64 a7, .int .i64 a8, .int .i64 a9, .int .i64 a10, .int .i64 a11, .int .i64 a12] 25)).heap[w.heap.size]? = some (.cells #[.slice A0 P.length c0, .slice A1 L.length c1, .int .i64 a2, .int .i64 a3, .int .i64 a4, .int .i64 a5, .int .i64 a6, .int .i64 a7, .int .i64 a8, .int .i64 a9, .int .i64 a10, .int .i64 a11, .int .i64 a12] 25)) := ⟨heap_alloc_new _ _⟩
 have HB := am (below_alloc (Below.refl w.heap.size w) (Obj.cells #[.slice A0 P.length c0, .slice A1 L.length c1, .int .i64 a2, .int .i64 a3, .int .i64 a4, .int .i64 a5, .int .i64 a6, .int .i64 a7, .int .i64 a8, .int .i64 a9, .int .i64 a10, .int .i64 a11, .int .i64 a12] 25))
 generalize w.alloc (Obj.cells #[.slice A0 P.length c0, .slice A1 L.length c1, .int .i64 a2, .int .i64 a3, .int .i64 a4, .int .i64 a5, .int .i64 a6, .int .i64 a7, .int .i64 a8, .int .i64 a9, .int .i64 a10, .int .i64 a11, .int .i64 a12] 25) = wa at *
 clear HO hd1 hd6
 go_loopg [19] (P.length + 1) (fun kq v19 w' => ∃ i : Int, v19 = .int .i64 i ∧ Aside0 (kq + i = P.length + 1 ∧ 0 ≤ i) ∧ Aside0 (Below w.heap.size w w'))
 case atStart => exact ⟨0, rfl, ⟨by omega⟩, HB⟩
 case round =>
  clear HB
  obtain ⟨i, rfl, HK, HB⟩ := hrel
  by_cases hi1 : i < (P.length : Int)
  ·have hi0 := HK.out.2
   obtain ⟨ad0, e0, y0, y1⟩ := at_T68 (Kd.C_below HR0.out HB.out) i hi0 hi1
   cases e0
   have HQ := am (HK0.out i hi0 hi1)
   obtain ⟨n, f, hx⟩ : ∃ n f, rd_T68 P i = ⟨n, f⟩ := ⟨_, _, rfl⟩
   rw [hx] at y0 y1 HQ
   clear hx
   dsimp only at y0 y1
   have HQ' : Aside0 (1 ≤ n ∧ n ≤ 12 ∧ 0 ≤ f ∧ f ≤ 3 ∧ 3 * f + 1 ≤ n) := ⟨HQ.out⟩
   have hlt : decide (i < (P.length : Int)) = true := dT hi1
   have p0_ := eq_true hi0
   have p1_ := eq_true hi1
   have hw1 : wrap64 (i + 1) = i + 1 := by have := HL.out; unfold wrap64; omega
   have t1 : decide (n < 1) = false := dF (by have := HQ'.out; omega)
   have t2 : decide (12 < n) = false := dF (by have := HQ'.out; omega)
   have t3 : decide (f < 0) = false := dF (by have := HQ'.out; omega)
   have t4 : decide (3 < f) = false := dF (by have := HQ'.out; omega)
   have t5 : wrap64 (3 * f) = 3 * f := by have := HQ'.out; unfold wrap64; omega
   have t6 : wrap64 (3 * f + 1) = 3 * f + 1 := by have := HQ'.out; unfold wrap64; omega
   have t7 : decide (n < 3 * f + 1) = false := dF (by have := HQ'.out; omega)
   cases gk with
   | zero => exact absurd HK.out (by omega)
   | succ k1 =>
   go_wp2_with fail
   go_roundg k1
   case measure => have := HK.out; omega
   case rel => exact ⟨i + 1, (by first | rfl | rw [hw1]), ⟨by have := HK.out; omega⟩, ⟨by repeat (first | exact HB.out | apply below_alloc)⟩⟩
  ·have hlt : decide (i < (P.length : Int)) = false := dF hi1
   go_wp2_with fail
   go_ret
   exact ⟨rfl, HB.out⟩
structure NetOk (P : List S68) (L : List S71) : Prop where
 p1 : 1 ≤ P.length
 p6 : P.length ≤ 6
 parts : ∀ i : Int, 0 ≤ i → i < P.length → PartOk (rd_T68 P i)
 l10 : L.length ≤ 10
 links : ∀ i : Int, 0 ≤ i → i < L.length → LinkOk P (L.take i.toNat) (rd_T71 L i)
set_option maxHeartbeats 4000000 in
set_option maxRecDepth 4000 in
theorem check_yes (A0 : Option Addr) (c0 : Nat) (P : List S68) (A1 : Option Addr) (c1 : Nat) (L : List S71) (a2 a3 a4 a5 a6 a7 a8 a9 a10 a11 a12 : Int) (d : List Int) (w : World) (hr0 : Kd.C k68 w A0 P.length P) (hc0 : P.length ≤ c0) (hr1 : Kd.C k71 w A1 L.length L) (hc1 : L.length ≤ c1) (hn : NetOk P L) (hd : plan_Dists.f 100 P L a2 a3 a4 a5 a6 a7 a8 a9 a10 a11 a12 0 = some d) (hi : slices_Index_int_int.f 100 d (-1) = some (-1)) :
  Calls Tryz.prog 86 #[.agg #[.slice A0 P.length c0, .slice A1 L.length c1, .int .i64 a2, .int .i64 a3, .int .i64 a4, .int .i64 a5, .int .i64 a6, .int .i64 a7, .int .i64 a8, .int .i64 a9, .int .i64 a10, .int .i64 a11, .int .i64 a12]] w fun e w' => e = .returned .nilIface ∧ Below w.heap.size w w' := by
 have HR0 := am hr0
 have HR1 := am hr1
 have HC0 := am hc0
 have HC1 := am hc1
 have HN := am hn
 have HD := am hd
 have HI := am hi
 clear hr0 hr1 hc0 hc1 hn hd hi
 go_enter Tryz.func86, Tryz.ntmps86
 go_upto_region 1 with fail
 have HO1 : Aside0 ((w.alloc (.cells #[.slice A0 P.length c0, .slice A1 L.length c1, .int .i64 a2, .int .i64 a3, .int .i64 a4, .int .i64 a5, .int .i64 a6, .int .i64 a7, .int .i64 a8, .int .i64 a9, .int .i64 a10, .int .i64 a11, .int .i64 a12] 25)).heap[w.heap.size]? = some (.cells #[.slice A0 P.length c0, .slice A1 L.length c1, .int .i64 a2, .int .i64 a3, .int .i64 a4, .int .i64 a5, .int .i64 a6, .int .i64 a7, .int .i64 a8, .int .i64 a9, .int .i64 a10, .int .i64 a11, .int .i64 a12] 25)) := ⟨heap_alloc_new _ _⟩
 have HB1 := am (below_alloc (Below.refl w.heap.size w) (Obj.cells #[.slice A0 P.length c0, .slice A1 L.length c1, .int .i64 a2, .int .i64 a3, .int .i64 a4, .int .i64 a5, .int .i64 a6, .int .i64 a7, .int .i64 a8, .int .i64 a9, .int .i64 a10, .int .i64 a11, .int .i64 a12] 25))
 generalize w.alloc (Obj.cells #[.slice A0 P.length c0, .slice A1 L.length c1, .int .i64 a2, .int .i64 a3, .int .i64 a4, .int .i64 a5, .int .i64 a6, .int .i64 a7, .int .i64 a8, .int .i64 a9, .int .i64 a10, .int .i64 a11, .int .i64 a12] 25) = w1 at *
 obtain ⟨bx, hbx⟩ : ∃ bx, bx = w.heap.size := ⟨_, rfl⟩
 rw [← hbx]
 rw [← hbx] at HO1
 have HBX := am hbx
 clear hbx
 obtain ⟨x0, x1, x2, x3, x4, x5, x6, x7, x8, x9, x10, x11, x12⟩ := cellsK13 HO1.out
 go_wp2_with fail
 refine (parts_yes A0 c0 P A1 c1 L a2 a3 a4 a5 a6 a7 a8 a9 a10 a11 a12 _ (Kd.C_below HR0.out HB1.out) HC0.out (Kd.C_below HR1.out HB1.out) HC1.out HN.out.p1 HN.out.p6 HN.out.parts).mono ?_
 rintro e w2 ⟨rfl, hb⟩
 clear x0 x1 x2 x3 x4 x5 x6 x7 x8 x9 x10 x11 x12
 have HB2 := am (below_step HB1.out hb)
 have HO2 := am ((hb.block bx (blk_lt HO1.out)).trans HO1.out)
 clear hb
 obtain ⟨x0, x1, x2, x3, x4, x5, x6, x7, x8, x9, x10, x11, x12⟩ := cellsK13 HO2.out
 go_wp2_with fail
 refine (links_yes A0 c0 P A1 c1 L a2 a3 a4 a5 a6 a7 a8 a9 a10 a11 a12 _ (Kd.C_below HR0.out HB2.out) HC0.out (Kd.C_below HR1.out HB2.out) HC1.out HN.out.l10 HN.out.links).mono ?_
 rintro e w3 ⟨rfl, hb⟩
 clear x0 x1 x2 x3 x4 x5 x6 x7 x8 x9 x10 x11 x12
 have HB3 := am (below_step HB2.out hb)
 have HO3 := am ((hb.block bx (blk_lt HO2.out)).trans HO2.out)
 clear hb
 obtain ⟨x0, x1, x2, x3, x4, x5, x6, x7, x8, x9, x10, x11, x12⟩ := cellsK13 HO3.out
 go_wp2_with fail
 refine (plan_Dists.calls 100 A0 c0 P A1 c1 L a2 a3 a4 a5 a6 a7 a8 a9 a10 a11 a12 0 d _ (Kd.C_below HR0.out HB3.out) HC0.out (Kd.C_below HR1.out HB3.out) HC1.out HD.out).mono ?_
 rintro e w4 ⟨v4, rfl, ho4, hb⟩
 obtain ⟨A4, c4, rfl⟩ := Kd.R_slice ho4
 have R4 := am ho4
 clear ho4
 clear x0 x1 x2 x3 x4 x5 x6 x7 x8 x9 x10 x11 x12
 have HB4 := am (below_step HB3.out hb)
 have HO4 := am ((hb.block bx (blk_lt HO3.out)).trans HO3.out)
 clear hb
 go_wp2_with fail
 refine (slices_Index_int_int.calls 100 A4 c4 d (-1) (-1) _ (Kd.R_reads' R4.out).2.2 (Kd.R_reads' R4.out).2.1 HI.out).mono ?_
 rintro e w5 ⟨rfl, hD⟩
 have hb := hD.below
 clear hD
 have HB5 := am (below_step HB4.out hb)
 have HO5 := am ((hb.block bx (blk_lt HO4.out)).trans HO4.out)
 clear hb
 go_wp2_with fail
 go_ret
 exact ⟨rfl, HB5.out⟩
theorem as_nil (t : Value) (w : World) : Calls Tryz.prog 87 #[.nilIface, t] w fun e w' => e = .returned (.bool false) ∧ w' = w := by
 go_enter Tryz.func87, Tryz.ntmps87
 go_wp2
 go_ret
 exact ⟨rfl, rfl⟩
set_option maxHeartbeats 4000000 in
set_option maxRecDepth 4000 in
theorem Check_yes (A0 : Option Addr) (c0 : Nat) (P : List S68) (A1 : Option Addr) (c1 : Nat) (L : List S71) (a2 a3 a4 a5 a6 a7 a8 a9 a10 a11 a12 : Int) (d : List Int) (w : World) (hr0 : Kd.C k68 w A0 P.length P) (hc0 : P.length ≤ c0) (hr1 : Kd.C k71 w A1 L.length L) (hc1 : L.length ≤ c1) (hn : NetOk P L) (hd : plan_Dists.f 100 P L a2 a3 a4 a5 a6 a7 a8 a9 a10 a11 a12 0 = some d) (hi : slices_Index_int_int.f 100 d (-1) = some (-1)) :
  Calls Tryz.prog 77 #[.agg #[.slice A0 P.length c0, .slice A1 L.length c1, .int .i64 a2, .int .i64 a3, .int .i64 a4, .int .i64 a5, .int .i64 a6, .int .i64 a7, .int .i64 a8, .int .i64 a9, .int .i64 a10, .int .i64 a11, .int .i64 a12]] w fun e w' => e = .returned (.tuple #[.int .i64 0, .int .i64 0]) ∧ Below w.heap.size w w' := by
 have hc := fun (W : World) (hB : Below w.heap.size w W) => check_yes A0 c0 P A1 c1 L a2 a3 a4 a5 a6 a7 a8 a9 a10 a11 a12 d W (Kd.C_below hr0 hB) hc0 (Kd.C_below hr1 hB) hc1 hn hd hi
 have HC := am hc
 clear hc hr0 hr1 hc0 hc1 hn hd hi
 go_enter Tryz.func77, Tryz.ntmps77
 have HB1 := am (below_alloc (Below.refl w.heap.size w) (Obj.cells #[.slice A0 P.length c0, .slice A1 L.length c1, .int .i64 a2, .int .i64 a3, .int .i64 a4, .int .i64 a5, .int .i64 a6, .int .i64 a7, .int .i64 a8, .int .i64 a9, .int .i64 a10, .int .i64 a11, .int .i64 a12] 25))
 go_wp2_with fail
 refine (HC.out _ HB1.out).mono ?_
 rintro e w2 ⟨rfl, hb⟩
 have HB2 := am (below_step HB1.out hb)
 clear hb
 go_wp2_with fail
 refine (as_nil _ _).mono ?_
 rintro e w3 ⟨rfl, rfl⟩
 go_wp2_with fail
 go_ret2
 exact ⟨rfl, by repeat (first | exact HB2.out | apply below_alloc)⟩
set_option maxHeartbeats 4000000 in
set_option maxRecDepth 4000 in
theorem right_yes (A0 : Option Addr) (c0 : Nat) (P : List S68) (A1 : Option Addr) (c1 : Nat) (L : List S71) (a2 a3 a4 a5 a6 a7 a8 a9 a10 a11 a12 : Int) (d : List Int) (w : World) (hr0 : Kd.C k68 w A0 P.length P) (hc0 : P.length ≤ c0) (hr1 : Kd.C k71 w A1 L.length L) (hc1 : L.length ≤ c1) (hn : NetOk P L) (hd : plan_Dists.f 100 P L a2 a3 a4 a5 a6 a7 a8 a9 a10 a11 a12 0 = some d) (hi : slices_Index_int_int.f 100 d (-1) = some (-1)) :
  Calls Tryz.prog 64 #[.agg #[.slice A0 P.length c0, .slice A1 L.length c1, .int .i64 a2, .int .i64 a3, .int .i64 a4, .int .i64 a5, .int .i64 a6, .int .i64 a7, .int .i64 a8, .int .i64 a9, .int .i64 a10, .int .i64 a11, .int .i64 a12]] w fun e w' => e = .returned (.bool true) ∧ Below w.heap.size w w' := by
 have hc := fun (W : World) (hB : Below w.heap.size w W) => Check_yes A0 c0 P A1 c1 L a2 a3 a4 a5 a6 a7 a8 a9 a10 a11 a12 d W (Kd.C_below hr0 hB) hc0 (Kd.C_below hr1 hB) hc1 hn hd hi
 have HC := am hc
 clear hc hr0 hr1 hc0 hc1 hn hd hi
 go_enter Tryz.func64, Tryz.ntmps64
 have HB1 := am (below_alloc (Below.refl w.heap.size w) (Obj.cells #[.slice A0 P.length c0, .slice A1 L.length c1, .int .i64 a2, .int .i64 a3, .int .i64 a4, .int .i64 a5, .int .i64 a6, .int .i64 a7, .int .i64 a8, .int .i64 a9, .int .i64 a10, .int .i64 a11, .int .i64 a12] 25))
 go_wp2_with fail
 refine (HC.out _ HB1.out).mono ?_
 rintro e w2 ⟨rfl, hb⟩
 have HB2 := am (below_step HB1.out hb)
 clear hb
 go_wp2_with fail
 go_ret
 exact ⟨rfl, HB2.out⟩
def sideB (P : List S68) (T : List S71) (part : Int) (p : S69) : Bool := !(p.f0 == p.f1) && (decide (0 ≤ part) && (decide (part < P.length) && (decide (0 ≤ p.f0) && (decide (p.f0 < (rd_T68 P part).f0) && (decide (0 ≤ p.f1) && (decide (p.f1 < (rd_T68 P part).f0) && (!T.any (takes part p.f0) && !T.any (takes part p.f1))))))))
def linkB (P : List S68) (T : List S71) (x : S71) : Bool := decide (0 ≤ x.f0) && (decide (x.f0 < x.f1) && (decide (x.f1 < P.length) && (!T.any (sameEnds x.f0 x.f1) && (sideB P T x.f0 x.f2 && sideB P T x.f1 x.f3))))
def partB (p : S68) : Bool := decide (1 ≤ p.f0) && (decide (p.f0 ≤ 12) && (decide (0 ≤ p.f1) && (decide (p.f1 ≤ 3) && decide (3 * p.f1 + 1 ≤ p.f0))))
def netB (P : List S68) (L : List S71) : Bool := decide (1 ≤ P.length) && (decide (P.length ≤ 6) && ((List.range P.length).all (fun i => partB (rd_T68 P i)) && (decide (L.length ≤ 10) && (List.range L.length).all (fun i => linkB P (L.take i) (rd_T71 L i)))))
theorem sideB_ok {P : List S68} {T : List S71} {part : Int} {p : S69} (h : sideB P T part p = true) : SideOk P T part p := by
 unfold sideB at h
 simp only [Bool.and_eq_true, decide_eq_true_eq, Bool.not_eq_true'] at h
 obtain ⟨h1, h2, h3, h4, h5, h6, h7, h8, h9⟩ := h
 exact ⟨h1, h2, h3, h4, h5, h6, h7, h8, h9⟩
theorem linkB_ok {P : List S68} {T : List S71} {x : S71} (h : linkB P T x = true) : LinkOk P T x := by
 unfold linkB at h
 simp only [Bool.and_eq_true, decide_eq_true_eq, Bool.not_eq_true'] at h
 obtain ⟨h1, h2, h3, h4, h5, h6⟩ := h
 exact ⟨h1, h2, h3, h4, sideB_ok h5, sideB_ok h6⟩
theorem netB_ok {P : List S68} {L : List S71} (h : netB P L = true) : NetOk P L := by
 unfold netB at h
 simp only [Bool.and_eq_true, decide_eq_true_eq, List.all_eq_true, List.mem_range] at h
 obtain ⟨h1, h2, h3, h4, h5⟩ := h
 refine ⟨h1, h2, fun i i0 i1 => ?_, h4, fun i i0 i1 => ?_⟩
 ·obtain ⟨n, rfl⟩ := Int.eq_ofNat_of_zero_le i0
  have := h3 n (by omega)
  unfold partB at this
  simp only [Bool.and_eq_true, decide_eq_true_eq] at this
  exact this
 ·obtain ⟨n, rfl⟩ := Int.eq_ofNat_of_zero_le i0
  exact linkB_ok (h5 n (by omega))
theorem any_take {L : List S71} {p : S71 → Bool} {n i : Int} (h : (L.take n.toNat).any p = false) (h0 : 0 ≤ i) (h1 : i < n) (h2 : n ≤ L.length) : p (rd_T71 L i) = false := by
 rw [List.any_eq_false] at h
 have hi : i.toNat < (L.take n.toNat).length := by rw [List.length_take]; omega
 have := h _ (List.getElem_mem hi)
 rw [List.getElem_take] at this
 have hi2 : i.toNat < L.length := by omega
 have e : rd_T71 L i = L[i.toNat] := by simp [rd_T71, List.getD_eq_getElem?_getD, hi2]
 rw [e]
 simpa using this
set_option maxHeartbeats 8000000 in
set_option maxRecDepth 4000 in
theorem port_no (A0 : Option Addr) (c0 : Nat) (P : List S68) (A1 : Option Addr) (c1 : Nat) (L : List S71) (a2 a3 a4 a5 a6 a7 a8 a9 a10 a11 a12 : Int) (nl part node : Int) (w : World) (hr0 : Kd.C k68 w A0 P.length P) (hc0 : P.length ≤ c0) (hr1 : Kd.C k71 w A1 L.length L) (hc1 : L.length ≤ c1) (hL : L.length ≤ 1000) (hn0 : 0 ≤ nl) (hn1 : nl ≤ L.length) (ht : (L.take nl.toNat).any (takes part node) = false) :
  Calls Tryz.prog 103 #[.agg #[.slice A0 P.length c0, .slice A1 L.length c1, .int .i64 a2, .int .i64 a3, .int .i64 a4, .int .i64 a5, .int .i64 a6, .int .i64 a7, .int .i64 a8, .int .i64 a9, .int .i64 a10, .int .i64 a11, .int .i64 a12], .int .i64 nl, .int .i64 part, .int .i64 node] w fun e w' => e = .returned (.tuple #[.agg #[.int .i64 0, .int .i64 0, .int .i64 0, .int .i64 0], .bool false]) ∧ Below w.heap.size w w' := by
 have HR1 := am hr1
 have HT := am ht
 have HL := am (show L.length ≤ 1000 ∧ 0 ≤ nl ∧ nl ≤ (L.length : Int) from ⟨hL, hn0, hn1⟩)
 clear hr0 hr1 hc0 hc1 ht hL hn0 hn1
 go_enter Tryz.func103, Tryz.ntmps103
 go_upto_region 1 with fail
 have HO : Aside0 (((w.alloc (.cells #[.slice A0 P.length c0, .slice A1 L.length c1, .int .i64 a2, .int .i64 a3, .int .i64 a4, .int .i64 a5, .int .i64 a6, .int .i64 a7, .int .i64 a8, .int .i64 a9, .int .i64 a10, .int .i64 a11, .int .i64 a12] 25)).alloc (.cells #[.int .i64 0, .int .i64 0, .int .i64 0, .int .i64 0] 136)).heap[w.heap.size]? = some (.cells #[.slice A0 P.length c0, .slice A1 L.length c1, .int .i64 a2, .int .i64 a3, .int .i64 a4, .int .i64 a5, .int .i64 a6, .int .i64 a7, .int .i64 a8, .int .i64 a9, .int .i64 a10, .int .i64 a11, .int .i64 a12] 25)) := ⟨by
  have h0 : (w.alloc (.cells #[.slice A0 P.length c0, .slice A1 L.length c1, .int .i64 a2, .int .i64 a3, .int .i64 a4, .int .i64 a5, .int .i64 a6, .int .i64 a7, .int .i64 a8, .int .i64 a9, .int .i64 a10, .int .i64 a11, .int .i64 a12] 25)).heap[w.heap.size]? = some (.cells #[.slice A0 P.length c0, .slice A1 L.length c1, .int .i64 a2, .int .i64 a3, .int .i64 a4, .int .i64 a5, .int .i64 a6, .int .i64 a7, .int .i64 a8, .int .i64 a9, .int .i64 a10, .int .i64 a11, .int .i64 a12] 25) := heap_alloc_new _ _
  exact ((below_alloc (Below.refl _ (w.alloc (.cells #[.slice A0 P.length c0, .slice A1 L.length c1, .int .i64 a2, .int .i64 a3, .int .i64 a4, .int .i64 a5, .int .i64 a6, .int .i64 a7, .int .i64 a8, .int .i64 a9, .int .i64 a10, .int .i64 a11, .int .i64 a12] 25))) _).block _ (blk_lt h0)).trans h0⟩
 have HZ : Aside0 (((w.alloc (.cells #[.slice A0 P.length c0, .slice A1 L.length c1, .int .i64 a2, .int .i64 a3, .int .i64 a4, .int .i64 a5, .int .i64 a6, .int .i64 a7, .int .i64 a8, .int .i64 a9, .int .i64 a10, .int .i64 a11, .int .i64 a12] 25)).alloc (.cells #[.int .i64 0, .int .i64 0, .int .i64 0, .int .i64 0] 136)).heap[w.heap.size + 1]? = some (.cells #[.int .i64 0, .int .i64 0, .int .i64 0, .int .i64 0] 136)) := ⟨by have := heap_alloc_new (w.alloc (.cells #[.slice A0 P.length c0, .slice A1 L.length c1, .int .i64 a2, .int .i64 a3, .int .i64 a4, .int .i64 a5, .int .i64 a6, .int .i64 a7, .int .i64 a8, .int .i64 a9, .int .i64 a10, .int .i64 a11, .int .i64 a12] 25)) (.cells #[.int .i64 0, .int .i64 0, .int .i64 0, .int .i64 0] 136); simpa using this⟩
 have HB := am (below_alloc (below_alloc (Below.refl w.heap.size w) (Obj.cells #[.slice A0 P.length c0, .slice A1 L.length c1, .int .i64 a2, .int .i64 a3, .int .i64 a4, .int .i64 a5, .int .i64 a6, .int .i64 a7, .int .i64 a8, .int .i64 a9, .int .i64 a10, .int .i64 a11, .int .i64 a12] 25)) (Obj.cells #[.int .i64 0, .int .i64 0, .int .i64 0, .int .i64 0] 136))
 generalize (w.alloc (.cells #[.slice A0 P.length c0, .slice A1 L.length c1, .int .i64 a2, .int .i64 a3, .int .i64 a4, .int .i64 a5, .int .i64 a6, .int .i64 a7, .int .i64 a8, .int .i64 a9, .int .i64 a10, .int .i64 a11, .int .i64 a12] 25)).alloc (.cells #[.int .i64 0, .int .i64 0, .int .i64 0, .int .i64 0] 136) = wa at *
 obtain ⟨bz, hbz⟩ : ∃ bz, bz = w.heap.size + 1 := ⟨_, rfl⟩
 obtain ⟨bx, hbx⟩ : ∃ bx, bx = w.heap.size := ⟨_, rfl⟩
 rw [← hbz, ← hbx]
 rw [← hbx] at HO
 rw [← hbz] at HZ
 have HBz : Aside0 (w.heap.size ≤ bz) := ⟨by omega⟩
 clear hbx hbz
 go_wp2_with fail
 go_loopg [10] (L.length + 1) (fun kq v10 w' => ∃ i : Int, v10 = .int .i64 i ∧ Aside0 (kq + i = L.length + 1 ∧ 0 ≤ i ∧ i ≤ nl) ∧ Aside0 (Below w.heap.size w w') ∧ Aside0 (w'.heap[bx]? = some (.cells #[.slice A0 P.length c0, .slice A1 L.length c1, .int .i64 a2, .int .i64 a3, .int .i64 a4, .int .i64 a5, .int .i64 a6, .int .i64 a7, .int .i64 a8, .int .i64 a9, .int .i64 a10, .int .i64 a11, .int .i64 a12] 25)) ∧ Aside0 (w'.heap[bz]? = some (.cells #[.int .i64 0, .int .i64 0, .int .i64 0, .int .i64 0] 136)))
 case atStart => exact ⟨0, rfl, ⟨by have := HL.out; omega⟩, HB, HO, HZ⟩
 case round =>
  clear HO HB HZ
  obtain ⟨i, rfl, HK, HB, HO, HZ⟩ := hrel
  by_cases hi1 : i < nl
  ·have hi0 := HK.out.2.1
   have hiL : i < (L.length : Int) := by have := HL.out; omega
   obtain ⟨ad1, e1, y0, y1, y2, y3, y4, y5⟩ := at_T71 (Kd.C_below HR1.out HB.out) i hi0 hiL
   cases e1
   have htk := any_take HT.out hi0 hi1 HL.out.2.2
   obtain ⟨x, hx⟩ : ∃ x, rd_T71 L i = x := ⟨_, rfl⟩
   rw [hx] at y0 y1 y2 y3 y4 y5 htk
   clear hx
   obtain ⟨a, b, ⟨p0, p1⟩, ⟨q0, q1⟩⟩ := x
   dsimp only at y0 y1 y2 y3 y4 y5
   have htk' : ((a == part && (p0 == node || p1 == node)) || (b == part && (q0 == node || q1 == node))) = false := htk
   clear htk
   have hlt : decide (i < nl) = true := dT hi1
   have q0_ := eq_true hi0
   have q1_ := eq_true hiL
   have hw1 : wrap64 (i + 1) = i + 1 := by have := HL.out; unfold wrap64; omega
   cases gk with
   | zero => exact absurd HK.out (by have := HL.out; omega)
   | succ k1 =>
   clear hi0 hi1 hiL
   obtain ⟨x0, x1, x2, x3, x4, x5, x6, x7, x8, x9, x10, x11, x12⟩ := cellsK13 HO.out
   go_upto_region 5 with fail
   have HB1 := am (below_alloc HB.out (Obj.cells #[.int .i64 a, .int .i64 b, .int .i64 p0, .int .i64 p1, .int .i64 q0, .int .i64 q1] 71))
   have HO1 := am (((below_alloc (Below.refl wr.heap.size wr) (Obj.cells #[.int .i64 a, .int .i64 b, .int .i64 p0, .int .i64 p1, .int .i64 q0, .int .i64 q1] 71)).block bx (blk_lt HO.out)).trans HO.out)
   have HZ1 := am (((below_alloc (Below.refl wr.heap.size wr) (Obj.cells #[.int .i64 a, .int .i64 b, .int .i64 p0, .int .i64 p1, .int .i64 q0, .int .i64 q1] 71)).block bz (blk_lt HZ.out)).trans HZ.out)
   have HLk1 : Aside0 ((wr.alloc (Obj.cells #[.int .i64 a, .int .i64 b, .int .i64 p0, .int .i64 p1, .int .i64 q0, .int .i64 q1] 71)).heap[wr.heap.size]? = some (Obj.cells #[.int .i64 a, .int .i64 b, .int .i64 p0, .int .i64 p1, .int .i64 q0, .int .i64 q1] 71)) := ⟨heap_alloc_new _ _⟩
   clear x0 x1 x2 x3 x4 x5 x6 x7 x8 x9 x10 x11 x12 y0 y1 y2 y3 y4 y5
   generalize wr.alloc (Obj.cells #[.int .i64 a, .int .i64 b, .int .i64 p0, .int .i64 p1, .int .i64 q0, .int .i64 q1] 71) = w1 at *
   generalize wr.heap.size = bl at *
   obtain ⟨l0, l1, l2, l3, l4, l5⟩ := cellsK6 HLk1.out
   cases ha : (a == part) with
   | false =>
    cases hb : (b == part) with
    | false =>
     clear htk'
     go_wp2_with fail
     refine wp_loop_rounds 3 ?_
     rw [rounds_succ]
     go_wp2_with fail
     rw [rounds_succ]
     go_wp2_with fail
     rw [rounds_succ]
     go_wp2_with fail
     go_roundg k1
     case measure => have := HK.out; omega
     case rel => exact ⟨i + 1, (by first | rfl | rw [hw1]), ⟨by have := HK.out; have := oT hlt; omega⟩, HB1, HO1, HZ1⟩
    | true =>
     have hq0 : (q0 == node) = false := by cases h : (q0 == node) <;> simp [hb, h] at htk' ⊢
     have hq1 : (q1 == node) = false := by cases h : (q1 == node) <;> simp [hb, h] at htk' ⊢
     clear htk'
     go_wp2_with fail
     refine wp_loop_rounds 3 ?_
     rw [rounds_succ]
     go_wp2_with fail
     rw [rounds_succ]
     go_wp2_with fail
     rw [rounds_succ]
     go_wp2_with fail
     go_roundg k1
     case measure => have := HK.out; omega
     case rel => exact ⟨i + 1, (by first | rfl | rw [hw1]), ⟨by have := HK.out; have := oT hlt; omega⟩, HB1, HO1, HZ1⟩
   | true =>
    have hp0 : (p0 == node) = false := by cases h : (p0 == node) <;> simp [ha, h] at htk' ⊢
    have hp1 : (p1 == node) = false := by cases h : (p1 == node) <;> simp [ha, h] at htk' ⊢
    cases hb : (b == part) with
    | false =>
     clear htk'
     go_wp2_with fail
     refine wp_loop_rounds 3 ?_
     rw [rounds_succ]
     go_wp2_with fail
     rw [rounds_succ]
     go_wp2_with fail
     rw [rounds_succ]
     go_wp2_with fail
     go_roundg k1
     case measure => have := HK.out; omega
     case rel => exact ⟨i + 1, (by first | rfl | rw [hw1]), ⟨by have := HK.out; have := oT hlt; omega⟩, HB1, HO1, HZ1⟩
    | true =>
     have hq0 : (q0 == node) = false := by cases h : (q0 == node) <;> simp [hb, h] at htk' ⊢
     have hq1 : (q1 == node) = false := by cases h : (q1 == node) <;> simp [hb, h] at htk' ⊢
     clear htk'
     go_wp2_with fail
     refine wp_loop_rounds 3 ?_
     rw [rounds_succ]
     go_wp2_with fail
     rw [rounds_succ]
     go_wp2_with fail
     rw [rounds_succ]
     go_wp2_with fail
     go_roundg k1
     case measure => have := HK.out; omega
     case rel => exact ⟨i + 1, (by first | rfl | rw [hw1]), ⟨by have := HK.out; have := oT hlt; omega⟩, HB1, HO1, HZ1⟩
  ·have hlt : decide (i < nl) = false := dF hi1
   obtain ⟨hz0, hz1, hz2, hz3⟩ := cellsK4 HZ.out
   obtain ⟨hf0, hf1, hf2, hf3⟩ := frozK4 HZ.out
   go_wp2_with fail
   refine bodyPost_ret (results_ct rfl _ _ bz 136 #[.int .i64 0, .int .i64 0, .int .i64 0, .int .i64 0] (0, 0) _ rfl (by
    have h := blk_set (blk_set (blk_set (blk_set HZ.out 0 (.int .i64 0)) 1 (.int .i64 0)) 2 (.int .i64 0)) 3 (.int .i64 0)
    simpa using h) Tryz.underlying136 rfl (by kernel_rfl)) rfl ?_
   exact ⟨rfl, (((HB.out.setCell HBz.out _).setCell HBz.out _).setCell HBz.out _).setCell HBz.out _⟩
end Go.Proofs.YtbefbhghmommhaaGreatDoor.MWo
