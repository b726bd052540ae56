/- Texts of this claim, laid together by a program (wip/g/merge5.py): MWox80, MWox81, Hk, HPp, MWox61. -/
import Derived.Test.YtbefbhghmommhaaGreatDoorZWr4
import Derived.Test.YtbefbhghmommhaaGreatDoorZWr10
import Derived.Deep.QuietTactic
import Derived.Test.YtbefbhghmommhaaGreatDoorZWr12
namespace Go.Proofs.YtbefbhghmommhaaGreatDoor.MWo
open Go.RowKit Go.Proofs.YtbefbhghmommhaaGreatDoorW.PrintWords Go.Proofs.YtbefbhghmommhaaGreatDoorW.PrintLast Go.Proofs.YtbefbhghmommhaaGreatDoorW.PrintMore
attribute [local go_sem] mp_u32s mp_u32m mp_u8s mp_u8m max2_int min2_int max_two min_two max_three min_three max_four min_four
set_option linter.unusedVariables false
set_option linter.unusedSimpArgs false
def dr1_Ceil.f (a0 : Int) (a1 : Int) : Option (Int × Bool) := if a1 < 1 then (some (0, false)) else (if a1 = 0 then (none) else (if (Int.tmod a0 a1) > 0 then (some (wrap64 ((wrap64 (Int.tdiv a0 a1)) + 1), true)) else (some (wrap64 (Int.tdiv a0 a1), true))))
set_option maxHeartbeats 8000000 in
set_option maxRecDepth 100000 in
theorem dr1_Ceil.calls (a0 : Int) (a1 : Int) (r1 : Int) (r2 : Bool) (w : World) (h : dr1_Ceil.f a0 a1 = some (r1, r2)) :
  Calls Tryz.prog 81 #[.int .i64 a0, .int .i64 a1] w fun e w' => e = .returned (.tuple #[.int .i64 r1, .bool r2]) ∧ Drawn0 w w' := by
 have H : (if a1 < 1 then (some (0, false)) else (if a1 = 0 then (none) else (if (Int.tmod a0 a1) > 0 then (some (wrap64 ((wrap64 (Int.tdiv a0 a1)) + 1), true)) else (some (wrap64 (Int.tdiv a0 a1), true))))) = some (r1, r2) := h
 clear h
 by_cases c3 : a1 < 1
 ·rw [if_pos c3] at H
  have c3b0 : decide (a1 < 1) = true := dT c3
  clear c3
  simp only [Option.some.injEq, Prod.mk.injEq] at H
  obtain ⟨rfl, rfl⟩ := H
  go_enter Tryz.func81, Tryz.ntmps81
  go_wp2
  go_ret2
  exact ⟨sd, dn⟩
 ·rw [if_neg c3] at H
  have c3b0 : decide (a1 < 1) = false := dF c3
  clear c3
  by_cases c4 : a1 = 0
  ·rw [if_pos c4] at H
   exact absurd H (by simp)
  ·rw [if_neg c4] at H
   have c4b0 : (a1 == 0) = false := beq_eq_false_iff_ne.mpr c4
   have c4b1 : (a1 != 0) = true := bne_iff_ne.mpr c4
   by_cases c5 : (Int.tmod a0 a1) > 0
   ·rw [if_pos c5] at H
    have c5b0 : decide (0 < (Int.tmod a0 a1)) = true := dT c5
    clear c5
    simp only [Option.some.injEq, Prod.mk.injEq] at H
    obtain ⟨rfl, rfl⟩ := H
    go_enter Tryz.func81, Tryz.ntmps81
    go_wp2
    go_ret2
    exact ⟨sd, dn⟩
   ·rw [if_neg c5] at H
    have c5b0 : decide (0 < (Int.tmod a0 a1)) = false := dF c5
    clear c5
    simp only [Option.some.injEq, Prod.mk.injEq] at H
    obtain ⟨rfl, rfl⟩ := H
    go_enter Tryz.func81, Tryz.ntmps81
    go_wp2
    go_ret2
    exact ⟨sd, dn⟩
def dr5_up.f (a0 : Int) : Option (Int) := (dr1_Ceil.f a0 1000000).bind fun bt269 => (some bt269.1)
set_option maxHeartbeats 8000000 in
set_option maxRecDepth 100000 in
theorem dr5_up.calls (a0 : Int) (r : Int) (w : World) (h : dr5_up.f a0 = some r) :
  Calls Tryz.prog 74 #[.int .i64 a0] w fun e w' => e = .returned (.int .i64 r) ∧ Drawn0 w w' := by
 have H : ((dr1_Ceil.f a0 1000000).bind fun bt269 => (some bt269.1)) = some r := h
 clear h
 replace H := bS H
 obtain ⟨⟨t269, t270⟩, A20, H⟩ := H
 replace H : (some t269) = some r := H
 have A2 := am A20
 clear A20
 obtain rfl := Option.some.inj H
 go_enter Tryz.func74, Tryz.ntmps74
 go_wp2_with (first | ((with_reducible refine gate_callee (f := 81) rfl ?_); refine goesL_ (some 7) rfl rfl Tryz.func81 (by kernel_rfl) rfl #[.int .i64 a0, .int .i64 1000000] rfl lm ?_; (with_reducible refine (dr1_Ceil.calls a0 1000000 t269 t270 _ A2.out).mono ?_); rintro e w' ⟨rfl, ⟨nd, rfl⟩⟩; refine ⟨_, rfl, ?_⟩))
 go_ret
 exact ⟨sd, dn⟩
end Go.Proofs.YtbefbhghmommhaaGreatDoor.MWo
set_option linter.unusedVariables false
set_option linter.unusedSimpArgs false
namespace Go.Proofs.YtbefbhghmommhaaGreatDoor.MWo
open Go.RowKit Go.Proofs.YtbefbhghmommhaaGreatDoorW.PrintWords Go.Proofs.YtbefbhghmommhaaGreatDoorW.PrintLast Go.Proofs.YtbefbhghmommhaaGreatDoorW.PrintMore
theorem any_take {L : List S71} {p : S71 → Bool} {n i : Int} (h : (L.take n.toNat).any p = false) (h0 : 0 ≤ i) (h1 : i < n) (h2 : n ≤ L.length) : p (rd_T71 L i) = false := by
 rw [List.any_eq_false] at h
 have hi : i.toNat < (L.take n.toNat).length := by rw [List.length_take]; omega
 have := h _ (List.getElem_mem hi)
 rw [List.getElem_take] at this
 have hi2 : i.toNat < L.length := by omega
 have e : rd_T71 L i = L[i.toNat] := by simp [rd_T71, List.getD_eq_getElem?_getD, hi2]
 rw [e]
 simpa using this
set_option linter.unusedVariables false
set_option linter.unusedSimpArgs false
theorem any_hit {L : List S71} {p : S71 → Bool} {n i : Int} (h : p (rd_T71 L i) = true) (h0 : 0 ≤ i) (h1 : i < n) (h2 : n ≤ L.length) : (L.take n.toNat).any p = true := by
 cases hh : (L.take n.toNat).any p with
 | true => rfl
 | false => rw [any_take hh h0 h1 h2] at h; cases h
theorem any_miss {L : List S71} {p : S71 → Bool} {n : Int} (h : ∀ j : Int, 0 ≤ j → j < n → p (rd_T71 L j) = false) (h0 : 0 ≤ n) (h2 : n ≤ L.length) : (L.take n.toNat).any p = false := by
 rw [List.any_eq_false]
 intro x hx
 obtain ⟨k, hk, rfl⟩ := List.getElem_of_mem hx
 rw [List.length_take] at hk
 rw [List.getElem_take]
 have hk2 : k < L.length := by omega
 have e : rd_T71 L k = L[k] := by simp [rd_T71, List.getD_eq_getElem?_getD, hk2]
 have := h k (by omega) (by omega)
 rw [e] at this
 simp [this]
set_option maxHeartbeats 8000000 in
set_option maxRecDepth 4000 in
theorem port_any (A0 : Option Addr) (c0 : Nat) (P : List S68) (A1 : Option Addr) (c1 : Nat) (L : List S71) (a2 a3 a4 a5 a6 a7 a8 a9 a10 a11 a12 : Int) (nl part node : Int) (w : World) (hr0 : Kd.C k68 w A0 P.length P) (hc0 : P.length ≤ c0) (hr1 : Kd.C k71 w A1 L.length L) (hc1 : L.length ≤ c1) (hL : L.length ≤ 1000) (hn0 : 0 ≤ nl) (hn1 : nl ≤ L.length) (r : Bool) (hr : (L.take nl.toNat).any (takes part node) = r) :
  Calls Tryz.prog 103 #[.agg #[.slice A0 P.length c0, .slice A1 L.length c1, .int .i64 a2, .int .i64 a3, .int .i64 a4, .int .i64 a5, .int .i64 a6, .int .i64 a7, .int .i64 a8, .int .i64 a9, .int .i64 a10, .int .i64 a11, .int .i64 a12], .int .i64 nl, .int .i64 part, .int .i64 node] w fun e w' => (∃ v0 v1 v2 v3, e = .returned (.tuple #[.agg #[.int .i64 v0, .int .i64 v1, .int .i64 v2, .int .i64 v3], .bool r])) ∧ Below w.heap.size w w' := by
 have HR1 := am hr1
 have HRr := am hr
 have HL := am (show L.length ≤ 1000 ∧ 0 ≤ nl ∧ nl ≤ (L.length : Int) from ⟨hL, hn0, hn1⟩)
 clear hr0 hr1 hc0 hc1 hr hL hn0 hn1
 go_enter Tryz.func103, Tryz.ntmps103
 go_upto_region 1 with fail
 have HO : Aside0 (((w.alloc (.cells #[.slice A0 P.length c0, .slice A1 L.length c1, .int .i64 a2, .int .i64 a3, .int .i64 a4, .int .i64 a5, .int .i64 a6, .int .i64 a7, .int .i64 a8, .int .i64 a9, .int .i64 a10, .int .i64 a11, .int .i64 a12] 25)).alloc (.cells #[.int .i64 0, .int .i64 0, .int .i64 0, .int .i64 0] 136)).heap[w.heap.size]? = some (.cells #[.slice A0 P.length c0, .slice A1 L.length c1, .int .i64 a2, .int .i64 a3, .int .i64 a4, .int .i64 a5, .int .i64 a6, .int .i64 a7, .int .i64 a8, .int .i64 a9, .int .i64 a10, .int .i64 a11, .int .i64 a12] 25)) := ⟨by
  have h0 : (w.alloc (.cells #[.slice A0 P.length c0, .slice A1 L.length c1, .int .i64 a2, .int .i64 a3, .int .i64 a4, .int .i64 a5, .int .i64 a6, .int .i64 a7, .int .i64 a8, .int .i64 a9, .int .i64 a10, .int .i64 a11, .int .i64 a12] 25)).heap[w.heap.size]? = some (.cells #[.slice A0 P.length c0, .slice A1 L.length c1, .int .i64 a2, .int .i64 a3, .int .i64 a4, .int .i64 a5, .int .i64 a6, .int .i64 a7, .int .i64 a8, .int .i64 a9, .int .i64 a10, .int .i64 a11, .int .i64 a12] 25) := heap_alloc_new _ _
  exact ((below_alloc (Below.refl _ (w.alloc (.cells #[.slice A0 P.length c0, .slice A1 L.length c1, .int .i64 a2, .int .i64 a3, .int .i64 a4, .int .i64 a5, .int .i64 a6, .int .i64 a7, .int .i64 a8, .int .i64 a9, .int .i64 a10, .int .i64 a11, .int .i64 a12] 25))) _).block _ (blk_lt h0)).trans h0⟩
 have HZ : Aside0 (((w.alloc (.cells #[.slice A0 P.length c0, .slice A1 L.length c1, .int .i64 a2, .int .i64 a3, .int .i64 a4, .int .i64 a5, .int .i64 a6, .int .i64 a7, .int .i64 a8, .int .i64 a9, .int .i64 a10, .int .i64 a11, .int .i64 a12] 25)).alloc (.cells #[.int .i64 0, .int .i64 0, .int .i64 0, .int .i64 0] 136)).heap[w.heap.size + 1]? = some (.cells #[.int .i64 0, .int .i64 0, .int .i64 0, .int .i64 0] 136)) := ⟨by have := heap_alloc_new (w.alloc (.cells #[.slice A0 P.length c0, .slice A1 L.length c1, .int .i64 a2, .int .i64 a3, .int .i64 a4, .int .i64 a5, .int .i64 a6, .int .i64 a7, .int .i64 a8, .int .i64 a9, .int .i64 a10, .int .i64 a11, .int .i64 a12] 25)) (.cells #[.int .i64 0, .int .i64 0, .int .i64 0, .int .i64 0] 136); simpa using this⟩
 have HB := am (below_alloc (below_alloc (Below.refl w.heap.size w) (Obj.cells #[.slice A0 P.length c0, .slice A1 L.length c1, .int .i64 a2, .int .i64 a3, .int .i64 a4, .int .i64 a5, .int .i64 a6, .int .i64 a7, .int .i64 a8, .int .i64 a9, .int .i64 a10, .int .i64 a11, .int .i64 a12] 25)) (Obj.cells #[.int .i64 0, .int .i64 0, .int .i64 0, .int .i64 0] 136))
 generalize (w.alloc (.cells #[.slice A0 P.length c0, .slice A1 L.length c1, .int .i64 a2, .int .i64 a3, .int .i64 a4, .int .i64 a5, .int .i64 a6, .int .i64 a7, .int .i64 a8, .int .i64 a9, .int .i64 a10, .int .i64 a11, .int .i64 a12] 25)).alloc (.cells #[.int .i64 0, .int .i64 0, .int .i64 0, .int .i64 0] 136) = wa at *
 obtain ⟨bz, hbz⟩ : ∃ bz, bz = w.heap.size + 1 := ⟨_, rfl⟩
 obtain ⟨bx, hbx⟩ : ∃ bx, bx = w.heap.size := ⟨_, rfl⟩
 rw [← hbz, ← hbx]
 rw [← hbx] at HO
 rw [← hbz] at HZ
 have HBz : Aside0 (w.heap.size ≤ bz) := ⟨by omega⟩
 clear hbx hbz
 go_wp2_with fail
 go_loopg [10] (L.length + 1) (fun kq v10 w' => ∃ i : Int, v10 = .int .i64 i ∧ Aside0 (kq + i = L.length + 1 ∧ 0 ≤ i ∧ i ≤ nl) ∧ Aside0 (Below w.heap.size w w') ∧ Aside0 (w'.heap[bx]? = some (.cells #[.slice A0 P.length c0, .slice A1 L.length c1, .int .i64 a2, .int .i64 a3, .int .i64 a4, .int .i64 a5, .int .i64 a6, .int .i64 a7, .int .i64 a8, .int .i64 a9, .int .i64 a10, .int .i64 a11, .int .i64 a12] 25)) ∧ Aside0 (w'.heap[bz]? = some (.cells #[.int .i64 0, .int .i64 0, .int .i64 0, .int .i64 0] 136)) ∧ Aside0 (∀ j : Int, 0 ≤ j → j < i → takes part node (rd_T71 L j) = false))
 case atStart => exact ⟨0, rfl, ⟨by have := HL.out; omega⟩, HB, HO, HZ, ⟨fun j h0 h1 => absurd h1 (by omega)⟩⟩
 case round =>
  clear HO HB HZ
  obtain ⟨i, rfl, HK, HB, HO, HZ, HD⟩ := hrel
  by_cases hi1 : i < nl
  ·have hi0 := HK.out.2.1
   have hiL : i < (L.length : Int) := by have := HL.out; omega
   obtain ⟨ad1, e1, y0, y1, y2, y3, y4, y5⟩ := at_T71 (Kd.C_below HR1.out HB.out) i hi0 hiL
   cases e1
   obtain ⟨x, hx⟩ : ∃ x, rd_T71 L i = x := ⟨_, rfl⟩
   have HX := am hx
   have HI1 := am (And.intro hi0 hi1)
   rw [hx] at y0 y1 y2 y3 y4 y5
   clear hx
   obtain ⟨a, b, ⟨p0, p1⟩, ⟨q0, q1⟩⟩ := x
   dsimp only at y0 y1 y2 y3 y4 y5
   have hlt : decide (i < nl) = true := dT hi1
   have q0_ := eq_true hi0
   have q1_ := eq_true hiL
   have hw1 : wrap64 (i + 1) = i + 1 := by have := HL.out; unfold wrap64; omega
   cases gk with
   | zero => exact absurd HK.out (by have := HL.out; omega)
   | succ k1 =>
   clear hi0 hi1 hiL
   obtain ⟨x0, x1, x2, x3, x4, x5, x6, x7, x8, x9, x10, x11, x12⟩ := cellsK13 HO.out
   go_upto_region 5 with fail
   have HB1 := am (below_alloc HB.out (Obj.cells #[.int .i64 a, .int .i64 b, .int .i64 p0, .int .i64 p1, .int .i64 q0, .int .i64 q1] 71))
   have HO1 := am (((below_alloc (Below.refl wr.heap.size wr) (Obj.cells #[.int .i64 a, .int .i64 b, .int .i64 p0, .int .i64 p1, .int .i64 q0, .int .i64 q1] 71)).block bx (blk_lt HO.out)).trans HO.out)
   have HZ1 := am (((below_alloc (Below.refl wr.heap.size wr) (Obj.cells #[.int .i64 a, .int .i64 b, .int .i64 p0, .int .i64 p1, .int .i64 q0, .int .i64 q1] 71)).block bz (blk_lt HZ.out)).trans HZ.out)
   have HLk1 : Aside0 ((wr.alloc (Obj.cells #[.int .i64 a, .int .i64 b, .int .i64 p0, .int .i64 p1, .int .i64 q0, .int .i64 q1] 71)).heap[wr.heap.size]? = some (Obj.cells #[.int .i64 a, .int .i64 b, .int .i64 p0, .int .i64 p1, .int .i64 q0, .int .i64 q1] 71)) := ⟨heap_alloc_new _ _⟩
   clear x0 x1 x2 x3 x4 x5 x6 x7 x8 x9 x10 x11 x12 y0 y1 y2 y3 y4 y5
   generalize wr.alloc (Obj.cells #[.int .i64 a, .int .i64 b, .int .i64 p0, .int .i64 p1, .int .i64 q0, .int .i64 q1] 71) = w1 at *
   generalize wr.heap.size = bl at *
   obtain ⟨l0, l1, l2, l3, l4, l5⟩ := cellsK6 HLk1.out
   cases ha : (a == part) with
   | false =>
    cases hb : (b == part) with
    | false =>
     have HM : Aside0 (takes part node (rd_T71 L i) = false) := ⟨by rw [HX.out]; show ((a == part && (p0 == node || p1 == node)) || (b == part && (q0 == node || q1 == node))) = false; simp [ha, hb]⟩
     go_wp2_with fail
     refine wp_loop_rounds 3 ?_
     rw [rounds_succ]
     go_wp2_with fail
     rw [rounds_succ]
     go_wp2_with fail
     rw [rounds_succ]
     go_wp2_with fail
     go_roundg k1
     case measure => have := HK.out; omega
     case rel => exact ⟨i + 1, (by first | rfl | rw [hw1]), ⟨by have := HK.out; have := oT hlt; omega⟩, HB1, HO1, HZ1, ⟨fun j h0 h1 => by
       by_cases hj : j < i
       ·exact HD.out j h0 hj
       ·have : j = i := by omega
        subst this
        exact HM.out⟩⟩
    | true =>
     cases hq0 : (q0 == node) with
     | true =>
      have e_ : r = true := by rw [← HRr.out]; exact any_hit (by rw [HX.out]; show ((a == part && (p0 == node || p1 == node)) || (b == part && (q0 == node || q1 == node))) = true; simp [ha, hb, hq0]) HI1.out.1 HI1.out.2 HL.out.2.2
      subst e_
      obtain ⟨hz0, hz1, hz2, hz3⟩ := cellsK4 HZ1.out
      obtain ⟨hf0, hf1, hf2, hf3⟩ := frozK4 HZ1.out
      go_wp2_with fail
      refine wp_loop_rounds 3 ?_
      rw [rounds_succ]
      go_wp2_with fail
      refine bodyPost_ret (results_ct rfl _ _ bz 136 #[.int .i64 node, .int .i64 i, .int .i64 0, .int .i64 1] (0, 0) _ rfl (by
       have h := blk_set (blk_set (blk_set (blk_set (HZ1.out) 0 (.int .i64 node)) 1 (.int .i64 i)) 2 (.int .i64 0)) 3 (.int .i64 1)
       simpa using h) Tryz.underlying136 rfl (by kernel_rfl)) rfl ?_
      exact ⟨⟨_, _, _, _, rfl⟩, (((HB1.out.setCell HBz.out _).setCell HBz.out _).setCell HBz.out _).setCell HBz.out _⟩
     | false =>
      cases hq1 : (q1 == node) with
      | true =>
       have e_ : r = true := by rw [← HRr.out]; exact any_hit (by rw [HX.out]; show ((a == part && (p0 == node || p1 == node)) || (b == part && (q0 == node || q1 == node))) = true; simp [ha, hb, hq0, hq1]) HI1.out.1 HI1.out.2 HL.out.2.2
       subst e_
       obtain ⟨hz0, hz1, hz2, hz3⟩ := cellsK4 HZ1.out
       obtain ⟨hf0, hf1, hf2, hf3⟩ := frozK4 HZ1.out
       go_wp2_with fail
       refine wp_loop_rounds 3 ?_
       rw [rounds_succ]
       go_wp2_with fail
       rw [rounds_succ]
       go_wp2_with fail
       refine bodyPost_ret (results_ct rfl _ _ bz 136 #[.int .i64 node, .int .i64 i, .int .i64 1, .int .i64 1] (0, 0) _ rfl (by
        have h := blk_set (blk_set (blk_set (blk_set (HZ1.out) 0 (.int .i64 node)) 1 (.int .i64 i)) 2 (.int .i64 1)) 3 (.int .i64 1)
        simpa using h) Tryz.underlying136 rfl (by kernel_rfl)) rfl ?_
       exact ⟨⟨_, _, _, _, rfl⟩, (((HB1.out.setCell HBz.out _).setCell HBz.out _).setCell HBz.out _).setCell HBz.out _⟩
      | false =>
       have HM : Aside0 (takes part node (rd_T71 L i) = false) := ⟨by rw [HX.out]; show ((a == part && (p0 == node || p1 == node)) || (b == part && (q0 == node || q1 == node))) = false; simp [ha, hb, hq0, hq1]⟩
       go_wp2_with fail
       refine wp_loop_rounds 3 ?_
       rw [rounds_succ]
       go_wp2_with fail
       rw [rounds_succ]
       go_wp2_with fail
       rw [rounds_succ]
       go_wp2_with fail
       go_roundg k1
       case measure => have := HK.out; omega
       case rel => exact ⟨i + 1, (by first | rfl | rw [hw1]), ⟨by have := HK.out; have := oT hlt; omega⟩, HB1, HO1, HZ1, ⟨fun j h0 h1 => by
         by_cases hj : j < i
         ·exact HD.out j h0 hj
         ·have : j = i := by omega
          subst this
          exact HM.out⟩⟩
   | true =>
    cases hb : (b == part) with
    | false =>
     cases hp0 : (p0 == node) with
     | true =>
      have e_ : r = true := by rw [← HRr.out]; exact any_hit (by rw [HX.out]; show ((a == part && (p0 == node || p1 == node)) || (b == part && (q0 == node || q1 == node))) = true; simp [ha, hb, hp0]) HI1.out.1 HI1.out.2 HL.out.2.2
      subst e_
      obtain ⟨hz0, hz1, hz2, hz3⟩ := cellsK4 HZ1.out
      obtain ⟨hf0, hf1, hf2, hf3⟩ := frozK4 HZ1.out
      go_wp2_with fail
      refine wp_loop_rounds 3 ?_
      rw [rounds_succ]
      go_wp2_with fail
      refine bodyPost_ret (results_ct rfl _ _ bz 136 #[.int .i64 node, .int .i64 i, .int .i64 0, .int .i64 0] (0, 0) _ rfl (by
       have h := blk_set (blk_set (blk_set (blk_set (HZ1.out) 0 (.int .i64 node)) 1 (.int .i64 i)) 2 (.int .i64 0)) 3 (.int .i64 0)
       simpa using h) Tryz.underlying136 rfl (by kernel_rfl)) rfl ?_
      exact ⟨⟨_, _, _, _, rfl⟩, (((HB1.out.setCell HBz.out _).setCell HBz.out _).setCell HBz.out _).setCell HBz.out _⟩
     | false =>
      cases hp1 : (p1 == node) with
      | true =>
       have e_ : r = true := by rw [← HRr.out]; exact any_hit (by rw [HX.out]; show ((a == part && (p0 == node || p1 == node)) || (b == part && (q0 == node || q1 == node))) = true; simp [ha, hb, hp0, hp1]) HI1.out.1 HI1.out.2 HL.out.2.2
       subst e_
       obtain ⟨hz0, hz1, hz2, hz3⟩ := cellsK4 HZ1.out
       obtain ⟨hf0, hf1, hf2, hf3⟩ := frozK4 HZ1.out
       go_wp2_with fail
       refine wp_loop_rounds 3 ?_
       rw [rounds_succ]
       go_wp2_with fail
       rw [rounds_succ]
       go_wp2_with fail
       refine bodyPost_ret (results_ct rfl _ _ bz 136 #[.int .i64 node, .int .i64 i, .int .i64 1, .int .i64 0] (0, 0) _ rfl (by
        have h := blk_set (blk_set (blk_set (blk_set (HZ1.out) 0 (.int .i64 node)) 1 (.int .i64 i)) 2 (.int .i64 1)) 3 (.int .i64 0)
        simpa using h) Tryz.underlying136 rfl (by kernel_rfl)) rfl ?_
       exact ⟨⟨_, _, _, _, rfl⟩, (((HB1.out.setCell HBz.out _).setCell HBz.out _).setCell HBz.out _).setCell HBz.out _⟩
      | false =>
       have HM : Aside0 (takes part node (rd_T71 L i) = false) := ⟨by rw [HX.out]; show ((a == part && (p0 == node || p1 == node)) || (b == part && (q0 == node || q1 == node))) = false; simp [ha, hb, hp0, hp1]⟩
       go_wp2_with fail
       refine wp_loop_rounds 3 ?_
       rw [rounds_succ]
       go_wp2_with fail
       rw [rounds_succ]
       go_wp2_with fail
       rw [rounds_succ]
       go_wp2_with fail
       go_roundg k1
       case measure => have := HK.out; omega
       case rel => exact ⟨i + 1, (by first | rfl | rw [hw1]), ⟨by have := HK.out; have := oT hlt; omega⟩, HB1, HO1, HZ1, ⟨fun j h0 h1 => by
         by_cases hj : j < i
         ·exact HD.out j h0 hj
         ·have : j = i := by omega
          subst this
          exact HM.out⟩⟩
    | true =>
     cases hp0 : (p0 == node) with
     | true =>
      have e_ : r = true := by rw [← HRr.out]; exact any_hit (by rw [HX.out]; show ((a == part && (p0 == node || p1 == node)) || (b == part && (q0 == node || q1 == node))) = true; simp [ha, hb, hp0]) HI1.out.1 HI1.out.2 HL.out.2.2
      subst e_
      obtain ⟨hz0, hz1, hz2, hz3⟩ := cellsK4 HZ1.out
      obtain ⟨hf0, hf1, hf2, hf3⟩ := frozK4 HZ1.out
      go_wp2_with fail
      refine wp_loop_rounds 3 ?_
      rw [rounds_succ]
      go_wp2_with fail
      refine bodyPost_ret (results_ct rfl _ _ bz 136 #[.int .i64 node, .int .i64 i, .int .i64 0, .int .i64 0] (0, 0) _ rfl (by
       have h := blk_set (blk_set (blk_set (blk_set (HZ1.out) 0 (.int .i64 node)) 1 (.int .i64 i)) 2 (.int .i64 0)) 3 (.int .i64 0)
       simpa using h) Tryz.underlying136 rfl (by kernel_rfl)) rfl ?_
      exact ⟨⟨_, _, _, _, rfl⟩, (((HB1.out.setCell HBz.out _).setCell HBz.out _).setCell HBz.out _).setCell HBz.out _⟩
     | false =>
      cases hq0 : (q0 == node) with
      | true =>
       have e_ : r = true := by rw [← HRr.out]; exact any_hit (by rw [HX.out]; show ((a == part && (p0 == node || p1 == node)) || (b == part && (q0 == node || q1 == node))) = true; simp [ha, hb, hp0, hq0]) HI1.out.1 HI1.out.2 HL.out.2.2
       subst e_
       obtain ⟨hz0, hz1, hz2, hz3⟩ := cellsK4 HZ1.out
       obtain ⟨hf0, hf1, hf2, hf3⟩ := frozK4 HZ1.out
       go_wp2_with fail
       refine wp_loop_rounds 3 ?_
       rw [rounds_succ]
       go_wp2_with fail
       refine bodyPost_ret (results_ct rfl _ _ bz 136 #[.int .i64 node, .int .i64 i, .int .i64 0, .int .i64 1] (0, 0) _ rfl (by
        have h := blk_set (blk_set (blk_set (blk_set (HZ1.out) 0 (.int .i64 node)) 1 (.int .i64 i)) 2 (.int .i64 0)) 3 (.int .i64 1)
        simpa using h) Tryz.underlying136 rfl (by kernel_rfl)) rfl ?_
       exact ⟨⟨_, _, _, _, rfl⟩, (((HB1.out.setCell HBz.out _).setCell HBz.out _).setCell HBz.out _).setCell HBz.out _⟩
      | false =>
       cases hp1 : (p1 == node) with
       | true =>
        have e_ : r = true := by rw [← HRr.out]; exact any_hit (by rw [HX.out]; show ((a == part && (p0 == node || p1 == node)) || (b == part && (q0 == node || q1 == node))) = true; simp [ha, hb, hp0, hq0, hp1]) HI1.out.1 HI1.out.2 HL.out.2.2
        subst e_
        obtain ⟨hz0, hz1, hz2, hz3⟩ := cellsK4 HZ1.out
        obtain ⟨hf0, hf1, hf2, hf3⟩ := frozK4 HZ1.out
        go_wp2_with fail
        refine wp_loop_rounds 3 ?_
        rw [rounds_succ]
        go_wp2_with fail
        rw [rounds_succ]
        go_wp2_with fail
        refine bodyPost_ret (results_ct rfl _ _ bz 136 #[.int .i64 node, .int .i64 i, .int .i64 1, .int .i64 0] (0, 0) _ rfl (by
         have h := blk_set (blk_set (blk_set (blk_set (HZ1.out) 0 (.int .i64 node)) 1 (.int .i64 i)) 2 (.int .i64 1)) 3 (.int .i64 0)
         simpa using h) Tryz.underlying136 rfl (by kernel_rfl)) rfl ?_
        exact ⟨⟨_, _, _, _, rfl⟩, (((HB1.out.setCell HBz.out _).setCell HBz.out _).setCell HBz.out _).setCell HBz.out _⟩
       | false =>
        cases hq1 : (q1 == node) with
        | true =>
         have e_ : r = true := by rw [← HRr.out]; exact any_hit (by rw [HX.out]; show ((a == part && (p0 == node || p1 == node)) || (b == part && (q0 == node || q1 == node))) = true; simp [ha, hb, hp0, hq0, hp1, hq1]) HI1.out.1 HI1.out.2 HL.out.2.2
         subst e_
         obtain ⟨hz0, hz1, hz2, hz3⟩ := cellsK4 HZ1.out
         obtain ⟨hf0, hf1, hf2, hf3⟩ := frozK4 HZ1.out
         go_wp2_with fail
         refine wp_loop_rounds 3 ?_
         rw [rounds_succ]
         go_wp2_with fail
         rw [rounds_succ]
         go_wp2_with fail
         refine bodyPost_ret (results_ct rfl _ _ bz 136 #[.int .i64 node, .int .i64 i, .int .i64 1, .int .i64 1] (0, 0) _ rfl (by
          have h := blk_set (blk_set (blk_set (blk_set (HZ1.out) 0 (.int .i64 node)) 1 (.int .i64 i)) 2 (.int .i64 1)) 3 (.int .i64 1)
          simpa using h) Tryz.underlying136 rfl (by kernel_rfl)) rfl ?_
         exact ⟨⟨_, _, _, _, rfl⟩, (((HB1.out.setCell HBz.out _).setCell HBz.out _).setCell HBz.out _).setCell HBz.out _⟩
        | false =>
         have HM : Aside0 (takes part node (rd_T71 L i) = false) := ⟨by rw [HX.out]; show ((a == part && (p0 == node || p1 == node)) || (b == part && (q0 == node || q1 == node))) = false; simp [ha, hb, hp0, hq0, hp1, hq1]⟩
         go_wp2_with fail
         refine wp_loop_rounds 3 ?_
         rw [rounds_succ]
         go_wp2_with fail
         rw [rounds_succ]
         go_wp2_with fail
         rw [rounds_succ]
         go_wp2_with fail
         go_roundg k1
         case measure => have := HK.out; omega
         case rel => exact ⟨i + 1, (by first | rfl | rw [hw1]), ⟨by have := HK.out; have := oT hlt; omega⟩, HB1, HO1, HZ1, ⟨fun j h0 h1 => by
           by_cases hj : j < i
           ·exact HD.out j h0 hj
           ·have : j = i := by omega
            subst this
            exact HM.out⟩⟩
  ·have hlt : decide (i < nl) = false := dF hi1
   have e_ : r = false := by rw [← HRr.out]; exact any_miss (fun j h0 h1 => HD.out j h0 (by omega)) HL.out.2.1 HL.out.2.2
   subst e_
   obtain ⟨hz0, hz1, hz2, hz3⟩ := cellsK4 HZ.out
   obtain ⟨hf0, hf1, hf2, hf3⟩ := frozK4 HZ.out
   go_wp2_with fail
   refine bodyPost_ret (results_ct rfl _ _ bz 136 #[.int .i64 0, .int .i64 0, .int .i64 0, .int .i64 0] (0, 0) _ rfl (by
    have h := blk_set (blk_set (blk_set (blk_set HZ.out 0 (.int .i64 0)) 1 (.int .i64 0)) 2 (.int .i64 0)) 3 (.int .i64 0)
    simpa using h) Tryz.underlying136 rfl (by kernel_rfl)) rfl ?_
   exact ⟨⟨_, _, _, _, rfl⟩, (((HB.out.setCell HBz.out _).setCell HBz.out _).setCell HBz.out _).setCell HBz.out _⟩
end Go.Proofs.YtbefbhghmommhaaGreatDoor.MWo
namespace Go.Proofs.YtbefbhghmommhaaGreatDoor.MWo
open Go.RowKit Go.Proofs.YtbefbhghmommhaaGreatDoorW.PrintWords Go.Proofs.YtbefbhghmommhaaGreatDoorW.PrintLast Go.Proofs.YtbefbhghmommhaaGreatDoorW.PrintMore
attribute [local go_sem] mp_u32s mp_u32m mp_u8s mp_u8m max2_int min2_int max_two min_two max_three min_three max_four min_four
set_option linter.unusedVariables false
set_option linter.unusedSimpArgs false
def dr5_is.f (a0 : Int) (a1 : Int) : Option (Bool) := if a0 ≥ 0 then (some (decide (a0 < a1))) else (some false)
set_option maxHeartbeats 8000000 in
set_option maxRecDepth 100000 in
theorem dr5_is.calls (a0 : Int) (a1 : Int) (r : Bool) (w : World) (h : dr5_is.f a0 a1 = some r) :
  Calls Tryz.prog 63 #[.int .i64 a0, .int .i64 a1] w fun e w' => e = .returned (.bool r) ∧ Drawn0 w w' := by
 have H : (if a0 ≥ 0 then (some (decide (a0 < a1))) else (some false)) = some r := h
 clear h
 by_cases c3 : a0 ≥ 0
 ·rw [if_pos c3] at H
  have c3b0 : decide (0 ≤ a0) = true := dT c3
  clear c3
  obtain rfl := Option.some.inj H
  go_enter Tryz.func63, Tryz.ntmps63
  go_wp2
  go_ret
  exact ⟨sd, dn⟩
 ·rw [if_neg c3] at H
  have c3b0 : decide (0 ≤ a0) = false := dF c3
  clear c3
  obtain rfl := Option.some.inj H
  go_enter Tryz.func63, Tryz.ntmps63
  go_wp2
  go_ret
  exact ⟨sd, dn⟩
end Go.Proofs.YtbefbhghmommhaaGreatDoor.MWo
