/- Texts that HopsSteps leans on, laid together by a program (wip/d/merge.py): MHox53, Hj, MHox40, Hk, Hl. -/
import Derived.Test.YtkhlndhleiaokaaDoorZHopsSteps1
import Derived.Test.YtkhlndhleiaokaaDoorZHopsSteps3
import Derived.Test.YtkhlndhleiaokaaDoorZHopsSteps2
import Derived.Deep.QuietTactic
namespace Go.Proofs.YtkhlndhleiaokaaDoor.MHo
open Go.RowKit Go.Proofs.YtkhlndhleiaokaaDoorW.PrintWords Go.Proofs.YtkhlndhleiaokaaDoorW.PrintLast Go.Proofs.YtkhlndhleiaokaaDoorW.PrintMore
attribute [local go_sem] mp_u32s mp_u32m mp_u8s mp_u8m max2_int min2_int max_two min_two max_three min_three max_four min_four
set_option linter.unusedVariables false
set_option linter.unusedSimpArgs false
def drumlineref26_ports.l0 : Nat → Int → Int → Int → List (S60) → List (S37) → Int → Int → Int → Int → Int → Int → Int → Int → Int → Int → Int → Option (Int)
 | 0, _, _, _, _, _, _, _, _, _, _, _, _, _, _, _, _ => none
 | k + 1, x1, x5, x6, x309000, x309001, x309002, x309003, x309004, x309005, x309006, x309007, x309008, x309009, x309010, x309011, x309012 => if x6 < (x309001.length : Int) then (if 0 ≤ x6 then (if ((rd_T37 x309001 x6).f0) = x1 then (drumlineref26_ports.l0 k x1 (wrap64 (x5 + 2)) (wrap64 (x6 + 1)) x309000 x309001 x309002 x309003 x309004 x309005 x309006 x309007 x309008 x309009 x309010 x309011 x309012) else (if ((rd_T37 x309001 x6).f1) = x1 then (drumlineref26_ports.l0 k x1 (wrap64 (x5 + 2)) (wrap64 (x6 + 1)) x309000 x309001 x309002 x309003 x309004 x309005 x309006 x309007 x309008 x309009 x309010 x309011 x309012) else (drumlineref26_ports.l0 k x1 x5 (wrap64 (x6 + 1)) x309000 x309001 x309002 x309003 x309004 x309005 x309006 x309007 x309008 x309009 x309010 x309011 x309012))) else (none)) else (some x5)
def drumlineref26_ports.f (k : Nat) (l0_0 : List (S60)) (l0_1 : List (S37)) (a0_2 : Int) (a0_3 : Int) (a0_4 : Int) (a0_5 : Int) (a0_6 : Int) (a0_7 : Int) (a0_8 : Int) (a0_9 : Int) (a0_10 : Int) (a0_11 : Int) (a0_12 : Int) (a1 : Int) : Option (Int) := drumlineref26_ports.l0 k a1 0 0 l0_0 l0_1 a0_2 a0_3 a0_4 a0_5 a0_6 a0_7 a0_8 a0_9 a0_10 a0_11 a0_12
theorem drumlineref26_ports.mono_l : ∀ k, (∀ y0 y1 y2 y3 y4 y5 y6 y7 y8 y9 y10 y11 y12 y13 y14 y15, LeO (drumlineref26_ports.l0 k y0 y1 y2 y3 y4 y5 y6 y7 y8 y9 y10 y11 y12 y13 y14 y15) (drumlineref26_ports.l0 (k + 1) y0 y1 y2 y3 y4 y5 y6 y7 y8 y9 y10 y11 y12 y13 y14 y15))
 | 0 => fun _ _ _ _ _ _ _ _ _ _ _ _ _ _ _ _ r h => by simp [drumlineref26_ports.l0] at h
 | k + 1 => by
  have ih0 := drumlineref26_ports.mono_l k
  ·intro y0 y1 y2 y3 y4 y5 y6 y7 y8 y9 y10 y11 y12 y13 y14 y15
   unfold drumlineref26_ports.l0
   repeat' first
   | (with_reducible exact ih0 _ _ _ _ _ _ _ _ _ _ _ _ _ _ _ _)
   | (with_reducible exact LeO.refl _)
   | (with_reducible exact LeO.none _)
   | (with_reducible refine LeO.ite ?_ ?_)
   | (with_reducible refine LeO.bind ?_ (fun _ => ?_))
   | exact ih0 _ _ _ _ _ _ _ _ _ _ _ _ _ _ _ _
   | exact LeO.none _
   | refine LeO.ite ?_ ?_
   | refine LeO.bind ?_ (fun _ => ?_)
theorem drumlineref26_ports.mono : ∀ a0 a1 a2 a3 a4 a5 a6 a7 a8 a9 a10 a11 a12 a13 k, LeO (drumlineref26_ports.f k a0 a1 a2 a3 a4 a5 a6 a7 a8 a9 a10 a11 a12 a13) (drumlineref26_ports.f (k + 1) a0 a1 a2 a3 a4 a5 a6 a7 a8 a9 a10 a11 a12 a13) := by
 intro a0 a1 a2 a3 a4 a5 a6 a7 a8 a9 a10 a11 a12 a13 k
 have ih0 := drumlineref26_ports.mono_l k
 unfold drumlineref26_ports.f
 repeat' first
   | (with_reducible exact ih0 _ _ _ _ _ _ _ _ _ _ _ _ _ _ _ _)
   | (with_reducible exact LeO.refl _)
   | (with_reducible exact LeO.none _)
   | (with_reducible refine LeO.ite ?_ ?_)
   | (with_reducible refine LeO.bind ?_ (fun _ => ?_))
   | exact ih0 _ _ _ _ _ _ _ _ _ _ _ _ _ _ _ _
   | exact LeO.none _
   | refine LeO.ite ?_ ?_
   | refine LeO.bind ?_ (fun _ => ?_)
set_option maxHeartbeats 8000000 in
set_option maxRecDepth 100000 in
theorem drumlineref26_ports.calls (k : Nat) (A0_0 : Option Addr) (c0_0 : Nat) (l0_0 : List (S60)) (A0_1 : Option Addr) (c0_1 : Nat) (l0_1 : List (S37)) (a0_2 : Int) (a0_3 : Int) (a0_4 : Int) (a0_5 : Int) (a0_6 : Int) (a0_7 : Int) (a0_8 : Int) (a0_9 : Int) (a0_10 : Int) (a0_11 : Int) (a0_12 : Int) (a1 : Int) (r : Int) (w : World) (hr0_0 : Kd.C k60 w A0_0 l0_0.length l0_0) (hc0_0 : l0_0.length ≤ c0_0) (hr0_1 : Kd.C k37 w A0_1 l0_1.length l0_1) (hc0_1 : l0_1.length ≤ c0_1) (h : drumlineref26_ports.f k l0_0 l0_1 a0_2 a0_3 a0_4 a0_5 a0_6 a0_7 a0_8 a0_9 a0_10 a0_11 a0_12 a1 = some r) :
  Calls Tryd.prog 54 #[.agg #[.slice A0_0 l0_0.length c0_0, .slice A0_1 l0_1.length c0_1, .int .i64 a0_2, .int .i64 a0_3, .int .i64 a0_4, .int .i64 a0_5, .int .i64 a0_6, .int .i64 a0_7, .int .i64 a0_8, .int .i64 a0_9, .int .i64 a0_10, .int .i64 a0_11, .int .i64 a0_12], .int .i64 a1] w fun e w' => e = .returned (.int .i64 r) ∧ Below w.heap.size w w' := by
 have hu25 := Tryd.underlying25
 have HR0_0 := Aside0.mk hr0_0
 have HC0_0 := Aside0.mk hc0_0
 clear hr0_0 hc0_0
 have HR0_1 := Aside0.mk hr0_1
 have HC0_1 := Aside0.mk hc0_1
 clear hr0_1 hc0_1
 have HB := Aside0.mk (Below.refl w.heap.size w)
 have H : (drumlineref26_ports.l0 k a1 0 0 l0_0 l0_1 a0_2 a0_3 a0_4 a0_5 a0_6 a0_7 a0_8 a0_9 a0_10 a0_11 a0_12) = some r := h
 clear h
 have H' := Aside0.mk H
 clear H
 go_enter Tryd.func54, Tryd.ntmps54
 go_wp2_with (first | ((with_reducible refine gate_dst (N := 2) rfl ?_); refine box_event ?hg (N := 2) ?hd (cs := #[.slice A0_0 l0_0.length c0_0, .slice A0_1 l0_1.length c0_1, .int .i64 a0_2, .int .i64 a0_3, .int .i64 a0_4, .int .i64 a0_5, .int .i64 a0_6, .int .i64 a0_7, .int .i64 a0_8, .int .i64 a0_9, .int .i64 a0_10, .int .i64 a0_11, .int .i64 a0_12]) (t := 25) ?hr ?_; (case hd => rfl); (case hg => rfl); (case hr => first | (go_simp; done) | (go_simp; rfl)); intro gb308 hg w3 hbox hb; have n0_ := Aside0.mk (below_step (by repeat (first | (with_reducible first | exact HB.out | apply below_alloc | apply pw_below_drewN | apply below_drew1) | exact HB.out)) hb); have n1_ := Aside0.mk (hbox); have n2_ := Aside0.mk ((by rw [hg]; exact (below_size (by repeat (first | (with_reducible first | exact HB.out | apply below_alloc | apply pw_below_drewN | apply below_drew1) | exact HB.out))) : w.heap.size ≤ gb308)); have n3_ := Aside0.mk ((by rw [hg]; exact (below_size (by repeat (first | (with_reducible first | exact HB.out | apply below_alloc | apply pw_below_drewN | apply below_drew1) | exact HB.out))) : w.heap.size ≤ gb308)); clear HB; have HB := n0_; have BK308 := n1_; have GW308 := n2_; have GE308 := n3_; clear n0_ n1_ n2_ n3_; clear hb hbox hg))
 go_loopg [5, 6] k (fun kq v5 v6 w' => ∃ (x5_1 : Int) (x6_1 : Int), v5 = .int .i64 x5_1 ∧ v6 = .int .i64 x6_1 ∧ Aside0 (drumlineref26_ports.l0 kq a1 x5_1 x6_1 l0_0 l0_1 a0_2 a0_3 a0_4 a0_5 a0_6 a0_7 a0_8 a0_9 a0_10 a0_11 a0_12 = some r) ∧ Aside0 (kq ≤ k) ∧ Aside0 (w'.heap[gb308]? = some (.cells #[(.slice A0_0 l0_0.length c0_0), (.slice A0_1 l0_1.length c0_1), .int .i64 a0_2, .int .i64 a0_3, .int .i64 a0_4, .int .i64 a0_5, .int .i64 a0_6, .int .i64 a0_7, .int .i64 a0_8, .int .i64 a0_9, .int .i64 a0_10, .int .i64 a0_11, .int .i64 a0_12] 25 (0, 0))) ∧ Aside0 (Below w.heap.size w w'))
 case atStart => exact ⟨(0), (0), (by first | rfl | (simp; done) | (simp [*]; done) | (have := TNA.out; unfold wrap64; congr 1; omega) | (unfold wrap64; omega)), (by first | rfl | (simp; done) | (simp [*]; done) | (have := TNA.out; unfold wrap64; congr 1; omega) | (unfold wrap64; omega)), H', ⟨Nat.le_refl _⟩, ⟨by (with_reducible repeat (first | refine blk_drewN ?_ _ | refine blk_drew ?_ | refine blk_alloc ?_ _)); exact BK308.out⟩, ⟨by repeat (first | (with_reducible first | exact HB.out | apply below_alloc | apply pw_below_drewN | apply below_drew1 | refine below_set ?_ GE308.out) | exact HB.out)⟩⟩
 case round =>
  clear H'
  try clear p2
  obtain ⟨x5_1, x6_1, rfl, rfl, HA, HK1, BK308, HB⟩ := hrel
  cases gk with
  | zero => exact absurd HA.out (by simp [drumlineref26_ports.l0])
  | succ k1 =>
   have H := HA.out
   clear HA
   simp only [drumlineref26_ports.l0] at H
   by_cases c4 : x6_1 < (l0_1.length : Int)
   ·rw [if_pos c4] at H
    have c4b0 : decide (x6_1 < (l0_1.length : Int)) = true := decide_eq_true c4
    clear c4
    by_cases c5 : 0 ≤ x6_1
    ·rw [if_pos c5] at H
     have c5b0 : decide (0 ≤ x6_1) = true := decide_eq_true c5
     clear c5
     by_cases c6 : ((rd_T37 l0_1 x6_1).f0) = a1
     ·rw [if_pos c6] at H
      have c6b0 : (((rd_T37 l0_1 x6_1).f0) == a1) = true := beq_iff_eq.mpr c6
      have c6b1 : (((rd_T37 l0_1 x6_1).f0) != a1) = false := bne_eq_false_iff_eq.mpr c6
      clear c6
      have H' := Aside0.mk H
      clear H
      obtain ⟨hcz7_0, hcz7_1, hcz7_2, hcz7_3, hcz7_4, hcz7_5, hcz7_6, hcz7_7, hcz7_8, hcz7_9, hcz7_10, hcz7_11, hcz7_12⟩ := cellsK13 BK308.out
      obtain ⟨hfz7_0, hfz7_1, hfz7_2, hfz7_3, hfz7_4, hfz7_5, hfz7_6, hfz7_7, hfz7_8, hfz7_9, hfz7_10, hfz7_11, hfz7_12⟩ := frozK13 BK308.out
      have p309 : 0 ≤ (x6_1 : Int) := of_decide_eq_true (by first | (with_reducible assumption) | assumption)
      have q309 : x6_1 < (l0_1.length : Int) := of_decide_eq_true (by first | (with_reducible assumption) | assumption)
      obtain ⟨ad309, e309, hx309_0, hx309_1, hx309_2, hx309_3, hx309_4, hx309_5⟩ := at_T37 HR0_1.out x6_1 p309 q309
      cases e309
      replace hx309_0 := (HB.out.cell (World.block_lt_of_cell? w _ hx309_0)).trans hx309_0
      replace hx309_1 := (HB.out.cell (World.block_lt_of_cell? w _ hx309_1)).trans hx309_1
      replace hx309_2 := (HB.out.cell (World.block_lt_of_cell? w _ hx309_2)).trans hx309_2
      replace hx309_3 := (HB.out.cell (World.block_lt_of_cell? w _ hx309_3)).trans hx309_3
      replace hx309_4 := (HB.out.cell (World.block_lt_of_cell? w _ hx309_4)).trans hx309_4
      replace hx309_5 := (HB.out.cell (World.block_lt_of_cell? w _ hx309_5)).trans hx309_5
      replace p309 := eq_true p309
      replace q309 := eq_true q309
      go_wp2
      go_roundg k1
      case measure => have := HK1.out; omega
      case rel => exact ⟨(wrap64 (x5_1 + 2)), (wrap64 (x6_1 + 1)), (by first | rfl | (simp; done) | (simp [*]; done) | (have := TNA.out; unfold wrap64; congr 1; omega) | (unfold wrap64; omega)), (by first | rfl | (simp; done) | (simp [*]; done) | (have := TNA.out; unfold wrap64; congr 1; omega) | (unfold wrap64; omega)), H', ⟨by have := HK1.out; omega⟩, ⟨by (with_reducible repeat (first | refine blk_drewN ?_ _ | refine blk_drew ?_ | refine blk_alloc ?_ _)); exact BK308.out⟩, ⟨by repeat (first | (with_reducible first | exact HB.out | apply below_alloc | apply pw_below_drewN | apply below_drew1 | refine below_set ?_ GE308.out) | exact HB.out)⟩⟩
     ·rw [if_neg c6] at H
      have c6b0 : (((rd_T37 l0_1 x6_1).f0) == a1) = false := beq_eq_false_iff_ne.mpr c6
      have c6b1 : (((rd_T37 l0_1 x6_1).f0) != a1) = true := bne_iff_ne.mpr c6
      by_cases c8 : ((rd_T37 l0_1 x6_1).f1) = a1
      ·rw [if_pos c8] at H
       have c8b0 : (((rd_T37 l0_1 x6_1).f1) == a1) = true := beq_iff_eq.mpr c8
       have c8b1 : (((rd_T37 l0_1 x6_1).f1) != a1) = false := bne_eq_false_iff_eq.mpr c8
       clear c8
       have H' := Aside0.mk H
       clear H
       obtain ⟨hcz9_0, hcz9_1, hcz9_2, hcz9_3, hcz9_4, hcz9_5, hcz9_6, hcz9_7, hcz9_8, hcz9_9, hcz9_10, hcz9_11, hcz9_12⟩ := cellsK13 BK308.out
       obtain ⟨hfz9_0, hfz9_1, hfz9_2, hfz9_3, hfz9_4, hfz9_5, hfz9_6, hfz9_7, hfz9_8, hfz9_9, hfz9_10, hfz9_11, hfz9_12⟩ := frozK13 BK308.out
       have p309 : 0 ≤ (x6_1 : Int) := of_decide_eq_true (by first | (with_reducible assumption) | assumption)
       have q309 : x6_1 < (l0_1.length : Int) := of_decide_eq_true (by first | (with_reducible assumption) | assumption)
       obtain ⟨ad309, e309, hx309_0, hx309_1, hx309_2, hx309_3, hx309_4, hx309_5⟩ := at_T37 HR0_1.out x6_1 p309 q309
       cases e309
       replace hx309_0 := (HB.out.cell (World.block_lt_of_cell? w _ hx309_0)).trans hx309_0
       replace hx309_1 := (HB.out.cell (World.block_lt_of_cell? w _ hx309_1)).trans hx309_1
       replace hx309_2 := (HB.out.cell (World.block_lt_of_cell? w _ hx309_2)).trans hx309_2
       replace hx309_3 := (HB.out.cell (World.block_lt_of_cell? w _ hx309_3)).trans hx309_3
       replace hx309_4 := (HB.out.cell (World.block_lt_of_cell? w _ hx309_4)).trans hx309_4
       replace hx309_5 := (HB.out.cell (World.block_lt_of_cell? w _ hx309_5)).trans hx309_5
       replace p309 := eq_true p309
       replace q309 := eq_true q309
       have p310 : 0 ≤ (x6_1 : Int) := of_decide_eq_true (by first | (with_reducible assumption) | assumption)
       have q310 : x6_1 < (l0_1.length : Int) := of_decide_eq_true (by first | (with_reducible assumption) | assumption)
       obtain ⟨ad310, e310, hx310_0, hx310_1, hx310_2, hx310_3, hx310_4, hx310_5⟩ := at_T37 HR0_1.out x6_1 p310 q310
       obtain rfl : ad309 = ad310 := (by injection e310)
       replace hx310_0 := (HB.out.cell (World.block_lt_of_cell? w _ hx310_0)).trans hx310_0
       replace hx310_1 := (HB.out.cell (World.block_lt_of_cell? w _ hx310_1)).trans hx310_1
       replace hx310_2 := (HB.out.cell (World.block_lt_of_cell? w _ hx310_2)).trans hx310_2
       replace hx310_3 := (HB.out.cell (World.block_lt_of_cell? w _ hx310_3)).trans hx310_3
       replace hx310_4 := (HB.out.cell (World.block_lt_of_cell? w _ hx310_4)).trans hx310_4
       replace hx310_5 := (HB.out.cell (World.block_lt_of_cell? w _ hx310_5)).trans hx310_5
       replace p310 := eq_true p310
       replace q310 := eq_true q310
       go_wp2
       go_roundg k1
       case measure => have := HK1.out; omega
       case rel => exact ⟨(wrap64 (x5_1 + 2)), (wrap64 (x6_1 + 1)), (by first | rfl | (simp; done) | (simp [*]; done) | (have := TNA.out; unfold wrap64; congr 1; omega) | (unfold wrap64; omega)), (by first | rfl | (simp; done) | (simp [*]; done) | (have := TNA.out; unfold wrap64; congr 1; omega) | (unfold wrap64; omega)), H', ⟨by have := HK1.out; omega⟩, ⟨by (with_reducible repeat (first | refine blk_drewN ?_ _ | refine blk_drew ?_ | refine blk_alloc ?_ _)); exact BK308.out⟩, ⟨by repeat (first | (with_reducible first | exact HB.out | apply below_alloc | apply pw_below_drewN | apply below_drew1 | refine below_set ?_ GE308.out) | exact HB.out)⟩⟩
      ·rw [if_neg c8] at H
       have c8b0 : (((rd_T37 l0_1 x6_1).f1) == a1) = false := beq_eq_false_iff_ne.mpr c8
       have c8b1 : (((rd_T37 l0_1 x6_1).f1) != a1) = true := bne_iff_ne.mpr c8
       have H' := Aside0.mk H
       clear H
       obtain ⟨hcz10_0, hcz10_1, hcz10_2, hcz10_3, hcz10_4, hcz10_5, hcz10_6, hcz10_7, hcz10_8, hcz10_9, hcz10_10, hcz10_11, hcz10_12⟩ := cellsK13 BK308.out
       obtain ⟨hfz10_0, hfz10_1, hfz10_2, hfz10_3, hfz10_4, hfz10_5, hfz10_6, hfz10_7, hfz10_8, hfz10_9, hfz10_10, hfz10_11, hfz10_12⟩ := frozK13 BK308.out
       have p309 : 0 ≤ (x6_1 : Int) := of_decide_eq_true (by first | (with_reducible assumption) | assumption)
       have q309 : x6_1 < (l0_1.length : Int) := of_decide_eq_true (by first | (with_reducible assumption) | assumption)
       obtain ⟨ad309, e309, hx309_0, hx309_1, hx309_2, hx309_3, hx309_4, hx309_5⟩ := at_T37 HR0_1.out x6_1 p309 q309
       cases e309
       replace hx309_0 := (HB.out.cell (World.block_lt_of_cell? w _ hx309_0)).trans hx309_0
       replace hx309_1 := (HB.out.cell (World.block_lt_of_cell? w _ hx309_1)).trans hx309_1
       replace hx309_2 := (HB.out.cell (World.block_lt_of_cell? w _ hx309_2)).trans hx309_2
       replace hx309_3 := (HB.out.cell (World.block_lt_of_cell? w _ hx309_3)).trans hx309_3
       replace hx309_4 := (HB.out.cell (World.block_lt_of_cell? w _ hx309_4)).trans hx309_4
       replace hx309_5 := (HB.out.cell (World.block_lt_of_cell? w _ hx309_5)).trans hx309_5
       replace p309 := eq_true p309
       replace q309 := eq_true q309
       have p310 : 0 ≤ (x6_1 : Int) := of_decide_eq_true (by first | (with_reducible assumption) | assumption)
       have q310 : x6_1 < (l0_1.length : Int) := of_decide_eq_true (by first | (with_reducible assumption) | assumption)
       obtain ⟨ad310, e310, hx310_0, hx310_1, hx310_2, hx310_3, hx310_4, hx310_5⟩ := at_T37 HR0_1.out x6_1 p310 q310
       obtain rfl : ad309 = ad310 := (by injection e310)
       replace hx310_0 := (HB.out.cell (World.block_lt_of_cell? w _ hx310_0)).trans hx310_0
       replace hx310_1 := (HB.out.cell (World.block_lt_of_cell? w _ hx310_1)).trans hx310_1
       replace hx310_2 := (HB.out.cell (World.block_lt_of_cell? w _ hx310_2)).trans hx310_2
       replace hx310_3 := (HB.out.cell (World.block_lt_of_cell? w _ hx310_3)).trans hx310_3
       replace hx310_4 := (HB.out.cell (World.block_lt_of_cell? w _ hx310_4)).trans hx310_4
       replace hx310_5 := (HB.out.cell (World.block_lt_of_cell? w _ hx310_5)).trans hx310_5
       replace p310 := eq_true p310
       replace q310 := eq_true q310
       go_wp2
       go_roundg k1
       case measure => have := HK1.out; omega
       case rel => exact ⟨(x5_1), (wrap64 (x6_1 + 1)), (by first | rfl | (simp; done) | (simp [*]; done) | (have := TNA.out; unfold wrap64; congr 1; omega) | (unfold wrap64; omega)), (by first | rfl | (simp; done) | (simp [*]; done) | (have := TNA.out; unfold wrap64; congr 1; omega) | (unfold wrap64; omega)), H', ⟨by have := HK1.out; omega⟩, ⟨by (with_reducible repeat (first | refine blk_drewN ?_ _ | refine blk_drew ?_ | refine blk_alloc ?_ _)); exact BK308.out⟩, ⟨by repeat (first | (with_reducible first | exact HB.out | apply below_alloc | apply pw_below_drewN | apply below_drew1 | refine below_set ?_ GE308.out) | exact HB.out)⟩⟩
    ·rw [if_neg c5] at H
     exact absurd H (by simp)
   ·rw [if_neg c4] at H
    have c4b0 : decide (x6_1 < (l0_1.length : Int)) = false := decide_eq_false c4
    clear c4
    obtain rfl := Option.some.inj H
    obtain ⟨hcz11_0, hcz11_1, hcz11_2, hcz11_3, hcz11_4, hcz11_5, hcz11_6, hcz11_7, hcz11_8, hcz11_9, hcz11_10, hcz11_11, hcz11_12⟩ := cellsK13 BK308.out
    obtain ⟨hfz11_0, hfz11_1, hfz11_2, hfz11_3, hfz11_4, hfz11_5, hfz11_6, hfz11_7, hfz11_8, hfz11_9, hfz11_10, hfz11_11, hfz11_12⟩ := frozK13 BK308.out
    go_wp2
    go_ret
    exact ⟨by first | rfl | (simp [errW_none, errW_some] <;> rfl) | (simp [*, errW_none, errW_some] <;> rfl), by repeat (first | (with_reducible first | exact HB.out | apply below_alloc | apply pw_below_drewN | apply below_drew1 | refine below_set ?_ GE308.out) | exact HB.out)⟩
end Go.Proofs.YtkhlndhleiaokaaDoor.MHo
set_option linter.unusedVariables false
set_option linter.unusedSimpArgs false
namespace Go.Proofs.YtkhlndhleiaokaaDoor.MHo
open Go.RowKit Go.Proofs.YtkhlndhleiaokaaDoorW.PrintWords Go.Proofs.YtkhlndhleiaokaaDoorW.PrintLast Go.Proofs.YtkhlndhleiaokaaDoorW.PrintMore
attribute [local go_sem] max2_int min2_int max_two min_two
set_option maxHeartbeats 8000000 in
set_option maxRecDepth 10000 in
theorem joined_walk (bc g cP c1 B : Nat) (A1 : Option Addr) (P : List S60) (L : List S37) (a2 a3 a4 a5 a6 a7 a8 a9 a10 a11 a12 a b x y m n : Int) (w : World)
  (ho : w.heap[bc]? = some (.cells #[.slice (some ⟨g, 0, none⟩) P.length cP, .slice A1 L.length c1, .int .i64 a2, .int .i64 a3, .int .i64 a4, .int .i64 a5, .int .i64 a6, .int .i64 a7, .int .i64 a8, .int .i64 a9, .int .i64 a10, .int .i64 a11, .int .i64 a12] 25)) (hP : PB w g cP P) (hL : Kd.R k37 37 w B (fun _ => True) (.slice A1 L.length c1) L) (hBc : B ≤ bc) (hBg : B ≤ g)
  (ha0 : 0 ≤ a) (ha1 : a < P.length) (hb0 : 0 ≤ b) (hb1 : b < P.length)
  (hx : drumlineref26_ports.f 100 P L a2 a3 a4 a5 a6 a7 a8 a9 a10 a11 a12 a = some x) (hy : drumlineref26_ports.f 100 P L a2 a3 a4 a5 a6 a7 a8 a9 a10 a11 a12 b = some y) (hx0 : 0 ≤ x) (hx1 : x ≤ 100) (hy0 : 0 ≤ y) (hy1 : y ≤ 100)
  (hm : (if (rd_T60 P a).f0 < x + 6 then x + 6 else (rd_T60 P a).f0) = m) (hn : (if (rd_T60 (P.set a.toNat ⟨m, (rd_T60 P a).f1⟩) b).f0 < y + 6 then y + 6 else (rd_T60 (P.set a.toNat ⟨m, (rd_T60 P a).f1⟩) b).f0) = n) :
  Calls Tryd.prog 40 #[.pointer (some ⟨bc, 0, none⟩), .int .i64 a, .int .i64 b] w fun e w' => e = .returned (.agg #[.int .i64 a, .int .i64 b, .int .i64 x, .int .i64 (x + 1), .int .i64 y, .int .i64 (y + 1)]) ∧
   w'.heap[bc]? = some (.cells #[.slice (some ⟨g, 0, none⟩) P.length cP, .slice A1 L.length c1, .int .i64 a2, .int .i64 a3, .int .i64 a4, .int .i64 a5, .int .i64 a6, .int .i64 a7, .int .i64 a8, .int .i64 a9, .int .i64 a10, .int .i64 a11, .int .i64 a12] 25) ∧ PB w' g cP ((P.set a.toNat ⟨m, (rd_T60 P a).f1⟩).set b.toNat ⟨n, (rd_T60 (P.set a.toNat ⟨m, (rd_T60 P a).f1⟩) b).f1⟩) ∧ Kd.R k37 37 w' B (fun _ => True) (.slice A1 L.length c1) L ∧ Below B w w' ∧ ∀ k, k < w.heap.size → k ≠ g → w'.heap[k]? = w.heap[k]? := by
 have HO := Aside0.mk ho
 have HP := Aside0.mk hP
 have HL := Aside0.mk hL
 have HG : Aside0 (g < w.heap.size ∧ bc < w.heap.size ∧ g ≠ bc) := by
  obtain ⟨cur, h1, _⟩ := hP
  refine ⟨blk_lt h1, blk_lt ho, ?_⟩
  rintro rfl
  rw [h1] at ho
  injection ho with ho
  injection ho with _ ho _
  exact absurd ho (by decide)
 have HX := Aside0.mk hx
 have HY := Aside0.mk hy
 have HXY := Aside0.mk (show 0 ≤ x ∧ x ≤ 100 ∧ 0 ≤ y ∧ y ≤ 100 from ⟨hx0, hx1, hy0, hy1⟩)
 have Hm := Aside0.mk hm
 have Hn := Aside0.mk hn
 have HBB := Aside0.mk (show B ≤ bc ∧ B ≤ g from ⟨hBc, hBg⟩)
 have HA := Aside0.mk (show (0 ≤ a ∧ a < (P.length : Int)) ∧ 0 ≤ b ∧ b < (P.length : Int) from ⟨⟨ha0, ha1⟩, hb0, hb1⟩)
 have hwx : wrap64 (x + 1) = x + 1 := by unfold wrap64; omega
 have hwy : wrap64 (y + 1) = y + 1 := by unfold wrap64; omega
 have hwx6 : wrap64 (x + 6) = x + 6 := by unfold wrap64; omega
 have hwy6 : wrap64 (y + 6) = y + 6 := by unfold wrap64; omega
 clear ho hP hL hx hy hx0 hx1 hy0 hy1 hm hn hBc hBg ha0 ha1 hb0 hb1
 go_enter Tryd.func40, Tryd.ntmps40
 go_upto_region 2 with fail
 have hCP := Aside0.mk (Kd.R_reads' (HP.out.to_R (ok := fun _ => True) HBB.out.2 trivial)).2
 have hCL := Aside0.mk (Kd.R_reads' HL.out).2
 have hZ0 : (w.alloc (.cells #[.int .i64 0, .int .i64 0, .int .i64 0, .int .i64 0, .int .i64 0, .int .i64 0] 37)).heap[w.heap.size]? = some (.cells #[.int .i64 0, .int .i64 0, .int .i64 0, .int .i64 0, .int .i64 0, .int .i64 0] 37) := heap_alloc_new _ _
 have HZ1 : Aside0 (((w.alloc (.cells #[.int .i64 0, .int .i64 0, .int .i64 0, .int .i64 0, .int .i64 0, .int .i64 0] 37)).alloc (.cells #[.int .i64 a, .int .i64 b, .int .i64 0, .int .i64 0, .int .i64 0, .int .i64 0] 37)).heap[w.heap.size]? = some (.cells #[.int .i64 0, .int .i64 0, .int .i64 0, .int .i64 0, .int .i64 0, .int .i64 0] 37)) := ⟨((below_alloc (Below.refl _ (w.alloc (.cells #[.int .i64 0, .int .i64 0, .int .i64 0, .int .i64 0, .int .i64 0, .int .i64 0] 37))) _).block _ (blk_lt hZ0)).trans hZ0⟩
 have HL1 : Aside0 (((w.alloc (.cells #[.int .i64 0, .int .i64 0, .int .i64 0, .int .i64 0, .int .i64 0, .int .i64 0] 37)).alloc (.cells #[.int .i64 a, .int .i64 b, .int .i64 0, .int .i64 0, .int .i64 0, .int .i64 0] 37)).heap[w.heap.size + 1]? = some (.cells #[.int .i64 a, .int .i64 b, .int .i64 0, .int .i64 0, .int .i64 0, .int .i64 0] 37)) := ⟨by have := heap_alloc_new (w.alloc (.cells #[.int .i64 0, .int .i64 0, .int .i64 0, .int .i64 0, .int .i64 0, .int .i64 0] 37)) (.cells #[.int .i64 a, .int .i64 b, .int .i64 0, .int .i64 0, .int .i64 0, .int .i64 0] 37); simpa using this⟩
 have HB1 := Aside0.mk (below_alloc (below_alloc (Below.refl w.heap.size w) (Obj.cells #[.int .i64 0, .int .i64 0, .int .i64 0, .int .i64 0, .int .i64 0, .int .i64 0] 37)) (Obj.cells #[.int .i64 a, .int .i64 b, .int .i64 0, .int .i64 0, .int .i64 0, .int .i64 0] 37))
 generalize (w.alloc (.cells #[.int .i64 0, .int .i64 0, .int .i64 0, .int .i64 0, .int .i64 0, .int .i64 0] 37)).alloc (.cells #[.int .i64 a, .int .i64 b, .int .i64 0, .int .i64 0, .int .i64 0, .int .i64 0] 37) = w1 at *
 clear hZ0
 obtain ⟨bl, hbl⟩ : ∃ bl, bl = w.heap.size + 1 := ⟨_, rfl⟩
 obtain ⟨bz, hbz⟩ : ∃ bz, bz = w.heap.size := ⟨_, rfl⟩
 rw [← hbl, ← hbz]
 rw [← hbl] at HL1
 rw [← hbz] at HZ1
 have HNE : Aside0 (bz ≠ bl ∧ w.heap.size ≤ bl ∧ w.heap.size ≤ bz ∧ bl ≠ bc ∧ bz ≠ bc ∧ bl ≠ g ∧ bz ≠ g) := ⟨by have := HG.out; omega⟩
 clear hbl hbz
 have HBd := Aside0.mk (below_drew HB1.out)
 have HOd : Aside0 (w1.drew.heap[bc]? = some (.cells #[.slice (some ⟨g, 0, none⟩) P.length cP, .slice A1 L.length c1, .int .i64 a2, .int .i64 a3, .int .i64 a4, .int .i64 a5, .int .i64 a6, .int .i64 a7, .int .i64 a8, .int .i64 a9, .int .i64 a10, .int .i64 a11, .int .i64 a12] 25)) := ⟨(HBd.out.block bc HG.out.2.1).trans HO.out⟩
 have HLd : Aside0 (w1.drew.heap[bl]? = some (.cells #[.int .i64 a, .int .i64 b, .int .i64 0, .int .i64 0, .int .i64 0, .int .i64 0] 37)) := ⟨HL1.out⟩
 have HZd : Aside0 (w1.drew.heap[bz]? = some (.cells #[.int .i64 0, .int .i64 0, .int .i64 0, .int .i64 0, .int .i64 0, .int .i64 0] 37)) := ⟨HZ1.out⟩
 have d0 : w1.drew.cell? ⟨bc, 0, none⟩ = some (.slice (some ⟨g, 0, none⟩) P.length cP) := (blk_cell HOd.out 0).trans rfl
 have d1 : w1.drew.cell? ⟨bc, 1, none⟩ = some (.slice A1 L.length c1) := (blk_cell HOd.out 1).trans rfl
 have d2 : w1.drew.cell? ⟨bc, 2, none⟩ = some (.int .i64 a2) := (blk_cell HOd.out 2).trans rfl
 have d3 : w1.drew.cell? ⟨bc, 3, none⟩ = some (.int .i64 a3) := (blk_cell HOd.out 3).trans rfl
 have d4 : w1.drew.cell? ⟨bc, 4, none⟩ = some (.int .i64 a4) := (blk_cell HOd.out 4).trans rfl
 have d5 : w1.drew.cell? ⟨bc, 5, none⟩ = some (.int .i64 a5) := (blk_cell HOd.out 5).trans rfl
 have d6 : w1.drew.cell? ⟨bc, 6, none⟩ = some (.int .i64 a6) := (blk_cell HOd.out 6).trans rfl
 have d7 : w1.drew.cell? ⟨bc, 7, none⟩ = some (.int .i64 a7) := (blk_cell HOd.out 7).trans rfl
 have d8 : w1.drew.cell? ⟨bc, 8, none⟩ = some (.int .i64 a8) := (blk_cell HOd.out 8).trans rfl
 have d9 : w1.drew.cell? ⟨bc, 9, none⟩ = some (.int .i64 a9) := (blk_cell HOd.out 9).trans rfl
 have d10 : w1.drew.cell? ⟨bc, 10, none⟩ = some (.int .i64 a10) := (blk_cell HOd.out 10).trans rfl
 have d11 : w1.drew.cell? ⟨bc, 11, none⟩ = some (.int .i64 a11) := (blk_cell HOd.out 11).trans rfl
 have d12 : w1.drew.cell? ⟨bc, 12, none⟩ = some (.int .i64 a12) := (blk_cell HOd.out 12).trans rfl
 clear HL1 HZ1 HB1
 refine start_ (n := 12) (S := fun w' => w'.cell? ⟨bc, 0, none⟩ = some (.slice (some ⟨g, 0, none⟩) P.length cP) ∧ w'.cell? ⟨bc, 1, none⟩ = some (.slice A1 L.length c1) ∧ w'.cell? ⟨bc, 2, none⟩ = some (.int .i64 a2) ∧ w'.cell? ⟨bc, 3, none⟩ = some (.int .i64 a3) ∧ w'.cell? ⟨bc, 4, none⟩ = some (.int .i64 a4) ∧ w'.cell? ⟨bc, 5, none⟩ = some (.int .i64 a5) ∧ w'.cell? ⟨bc, 6, none⟩ = some (.int .i64 a6) ∧ w'.cell? ⟨bc, 7, none⟩ = some (.int .i64 a7) ∧ w'.cell? ⟨bc, 8, none⟩ = some (.int .i64 a8) ∧ w'.cell? ⟨bc, 9, none⟩ = some (.int .i64 a9) ∧ w'.cell? ⟨bc, 10, none⟩ = some (.int .i64 a10) ∧ w'.cell? ⟨bc, 11, none⟩ = some (.int .i64 a11) ∧ w'.cell? ⟨bc, 12, none⟩ = some (.int .i64 a12)) (ds := []) #[false, false, false, false, false, false, false, false, false, false, false, false] (by kernel_rfl) rfl rfl ⟨d0, d1, d2, d3, d4, d5, d6, d7, d8, d9, d10, d11, d12⟩ (fun hHeld => ?_)
 generalize w1.drew = wd at HBd HOd HLd HZd d0 d1 d2 d3 d4 d5 d6 d7 d8 d9 d10 d11 d12 hHeld ⊢
 refine pure_ (i := 0) (N := some 13) (v := ?_) (a' := ?_) #[true, false, false, false, false, false, false, false, false, false, false, false] rfl rfl (by kernel_rfl) (fun _ _ _ h => h) (Or.inl ⟨by rfl, ?_⟩) ?_ ?_
 rotate_left
 ·intro w'
  go_simp
  with_reducible rfl
 rotate_left
 ·simp only [Act.put, sAa, sBb, sCc, i64_w, i32_w]
  rfl
 refine pure_ (i := 1) (N := some 14) (v := ?_) (a' := ?_) #[true, true, false, false, false, false, false, false, false, false, false, false] rfl rfl (by kernel_rfl) (fun _ _ _ h => h) (Or.inl ⟨by rfl, ?_⟩) ?_ ?_
 rotate_left
 ·intro w'
  go_simp
  with_reducible rfl
 rotate_left
 ·simp only [Act.put, sAa, sBb, sCc, i64_w, i32_w]
  rfl
 refine pure_ (i := 3) (N := some 16) (v := ?_) (a' := ?_) #[true, true, false, true, false, false, false, false, false, false, false, false] rfl rfl (by kernel_rfl) (fun _ _ _ h => h) (Or.inl ⟨by rfl, ?_⟩) ?_ ?_
 rotate_left
 ·intro w'
  go_simp
  with_reducible rfl
 rotate_left
 ·simp only [Act.put, sAa, sBb, sCc, i64_w, i32_w]
  rfl
 refine pure_ (i := 5) (N := some 18) (v := ?_) (a' := ?_) #[true, true, false, true, false, true, false, false, false, false, false, false] rfl rfl (by kernel_rfl) (fun _ _ _ h => h) (Or.inl ⟨by rfl, ?_⟩) ?_ ?_
 rotate_left
 ·intro w'
  go_simp
  with_reducible rfl
 rotate_left
 ·simp only [Act.put, sAa, sBb, sCc, i64_w, i32_w]
  rfl
 refine pure_ (i := 6) (N := some 19) (v := ?_) (a' := ?_) #[true, true, false, true, false, true, true, false, false, false, false, false] rfl rfl (by kernel_rfl) (fun _ _ _ h => h) (Or.inl ⟨by rfl, ?_⟩) ?_ ?_
 rotate_left
 ·intro w'
  go_simp
  with_reducible rfl
 rotate_left
 ·simp only [Act.put, sAa, sBb, sCc, i64_w, i32_w]
  rfl
 refine pure_ (i := 8) (N := some 21) (v := ?_) (a' := ?_) #[true, true, false, true, false, true, true, false, true, false, false, false] rfl rfl (by kernel_rfl) (fun _ _ _ h => h) (Or.inl ⟨by rfl, ?_⟩) ?_ ?_
 rotate_left
 ·intro w'
  go_simp
  with_reducible rfl
 rotate_left
 ·simp only [Act.put, sAa, sBb, sCc, i64_w, i32_w]
  rfl
 refine take_ (i := 2) (N := some 15) (v := ?_) (a' := ?_) #[true, true, true, true, false, true, true, false, true, false, false, false] rfl rfl (by kernel_rfl) (fun _ _ _ h => h) (Or.inl ⟨by rfl, ?_⟩) hHeld ?_ ?_
 rotate_left
 ·rintro w' ⟨s0, s1, s2, s3, s4, s5, s6, s7, s8, s9, s10, s11, s12⟩
  go_simp
  with_reducible rfl
 rotate_left
 ·simp only [Act.put, sAa, sBb, sCc, i64_w, i32_w]
  rfl
 refine take_ (i := 7) (N := some 20) (v := ?_) (a' := ?_) #[true, true, true, true, false, true, true, true, true, false, false, false] rfl rfl (by kernel_rfl) (fun _ _ _ h => h) (Or.inl ⟨by rfl, ?_⟩) hHeld ?_ ?_
 rotate_left
 ·rintro w' ⟨s0, s1, s2, s3, s4, s5, s6, s7, s8, s9, s10, s11, s12⟩
  go_simp
  with_reducible rfl
 rotate_left
 ·simp only [Act.put, sAa, sBb, sCc, i64_w, i32_w]
  rfl
 refine one_ (i := 4) (N := some 17) #[true, true, true, true, true, true, true, true, true, false, false, false] rfl rfl (by kernel_rfl) (by decide) (fun K hK => ?_)
 refine goes_ Tryd.func54 (by kernel_rfl) rfl #[.agg #[.slice (some ⟨g, 0, none⟩) P.length cP, .slice A1 L.length c1, .int .i64 a2, .int .i64 a3, .int .i64 a4, .int .i64 a5, .int .i64 a6, .int .i64 a7, .int .i64 a8, .int .i64 a9, .int .i64 a10, .int .i64 a11, .int .i64 a12], .int .i64 a] (by rfl) rfl rfl (by simp only [List.map_toArray, List.map_cons, List.map_nil]; rfl) ?_
 with_reducible refine (drumlineref26_ports.calls 100 (some ⟨g, 0, none⟩) cP P A1 c1 L a2 a3 a4 a5 a6 a7 a8 a9 a10 a11 a12 a x _ (Kd.C_below hCP.out.2 HBd.out) hCP.out.1 (Kd.C_below hCL.out.2 HBd.out) hCL.out.1 HX.out).mono ?_
 rintro e w3 ⟨rfl, hb⟩
 have HB3 := Aside0.mk (below_step HBd.out hb)
 have HO3 := Aside0.mk ((hb.block bc (blk_lt HOd.out)).trans HOd.out)
 have HL3 := Aside0.mk ((hb.block bl (blk_lt HLd.out)).trans HLd.out)
 have HZ3 := Aside0.mk ((hb.block bz (blk_lt HZd.out)).trans HZd.out)
 obtain ⟨f0, f1, f2, f3, f4, f5, f6, f7, f8, f9, f10, f11, f12⟩ := cellsK13 HO3.out
 clear hb
 refine ⟨_, rfl, ?_⟩
 refine hK.out _ _ ⟨f0, f1, f2, f3, f4, f5, f6, f7, f8, f9, f10, f11, f12⟩ (fun hHeld => ?_)
 clear hK K
 refine norm_ (a' := ?_) ?_ ?_
 rotate_left
 ·show Act.put _ (some 17) _ = _
  simp only [Act.put, sAa, sBb, sCc, i64_w, i32_w]
  rfl
 refine one_ (i := 9) (N := some 22) #[true, true, true, true, true, true, true, true, true, true, false, false] rfl rfl (by kernel_rfl) (by decide) (fun K hK => ?_)
 refine goes_ Tryd.func54 (by kernel_rfl) rfl #[.agg #[.slice (some ⟨g, 0, none⟩) P.length cP, .slice A1 L.length c1, .int .i64 a2, .int .i64 a3, .int .i64 a4, .int .i64 a5, .int .i64 a6, .int .i64 a7, .int .i64 a8, .int .i64 a9, .int .i64 a10, .int .i64 a11, .int .i64 a12], .int .i64 b] (by rfl) rfl rfl (by simp only [List.map_toArray, List.map_cons, List.map_nil]; rfl) ?_
 with_reducible refine (drumlineref26_ports.calls 100 (some ⟨g, 0, none⟩) cP P A1 c1 L a2 a3 a4 a5 a6 a7 a8 a9 a10 a11 a12 b y _ (Kd.C_below hCP.out.2 HB3.out) hCP.out.1 (Kd.C_below hCL.out.2 HB3.out) hCL.out.1 HY.out).mono ?_
 rintro e w4 ⟨rfl, hb⟩
 have HB4 := Aside0.mk (below_step HB3.out hb)
 have HO4 := Aside0.mk ((hb.block bc (blk_lt HO3.out)).trans HO3.out)
 have HL4 := Aside0.mk ((hb.block bl (blk_lt HL3.out)).trans HL3.out)
 have HZ4 := Aside0.mk ((hb.block bz (blk_lt HZ3.out)).trans HZ3.out)
 obtain ⟨h0, h1, h2, h3, h4, h5, h6, h7, h8, h9, h10, h11, h12⟩ := cellsK13 HO4.out
 clear hb
 refine ⟨_, rfl, ?_⟩
 refine hK.out _ _ ⟨h0, h1, h2, h3, h4, h5, h6, h7, h8, h9, h10, h11, h12⟩ (fun hHeld => ?_)
 clear hK K
 refine norm_ (a' := ?_) ?_ ?_
 rotate_left
 ·show Act.put _ (some 22) _ = _
  simp only [Act.put, sAa, sBb, sCc, i64_w, i32_w]
  rfl
 refine pure_ (i := 10) (N := some 8) (v := ?_) (a' := ?_) #[true, true, true, true, true, true, true, true, true, true, true, false] rfl rfl (by kernel_rfl) (fun _ _ _ h => h) (Or.inl ⟨by rfl, ?_⟩) ?_ ?_
 rotate_left
 ·intro w'
  go_simp
  with_reducible rfl
 rotate_left
 ·simp only [Act.put, sAa, sBb, sCc, i64_w, i32_w]
  rfl
 refine pure_ (i := 11) (N := some 9) (v := ?_) (a' := ?_) #[true, true, true, true, true, true, true, true, true, true, true, true] rfl rfl (by kernel_rfl) (fun _ _ _ h => h) (Or.inl ⟨by rfl, ?_⟩) ?_ ?_
 rotate_left
 ·intro w'
  go_simp
  with_reducible rfl
 rotate_left
 ·simp only [Act.put, sAa, sBb, sCc, i64_w, i32_w]
  rfl
 refine done_ (by kernel_rfl) ?_
 clear d0 d1 d2 d3 d4 d5 d6 d7 d8 d9 d10 d11 d12 f0 f1 f2 f3 f4 f5 f6 f7 f8 f9 f10 f11 f12 h0 h1 h2 h3 h4 h5 h6 h7 h8 h9 h10 h11 h12
 have l2 : w4.cell? ⟨bl, 2, none⟩ = some (.int .i64 0) := (blk_cell HL4.out 2).trans rfl
 have l3 : w4.cell? ⟨bl, 3, none⟩ = some (.int .i64 0) := (blk_cell HL4.out 3).trans rfl
 have l4 : w4.cell? ⟨bl, 4, none⟩ = some (.int .i64 0) := (blk_cell HL4.out 4).trans rfl
 have l5 : w4.cell? ⟨bl, 5, none⟩ = some (.int .i64 0) := (blk_cell HL4.out 5).trans rfl
 have k2 := blk_frozen HL4.out 2
 have k3 := blk_frozen HL4.out 3
 have k4 := blk_frozen HL4.out 4
 have k5 := blk_frozen HL4.out 5
 go_upto_region 5 with fail
 have HL5 : Aside0 (((((w4.setCell ⟨bl, 2, none⟩ (.int .i64 x)).setCell ⟨bl, 3, none⟩ (.int .i64 (x + 1))).setCell ⟨bl, 4, none⟩ (.int .i64 y)).setCell ⟨bl, 5, none⟩ (.int .i64 (y + 1))).heap[bl]? = some (.cells #[.int .i64 a, .int .i64 b, .int .i64 x, .int .i64 (x + 1), .int .i64 y, .int .i64 (y + 1)] 37)) := ⟨by
  have h := blk_set (blk_set (blk_set (blk_set HL4.out 2 (.int .i64 x)) 3 (.int .i64 (x + 1))) 4 (.int .i64 y)) 5 (.int .i64 (y + 1))
  simpa using h⟩
 have HK5 : Aside0 (∀ k, k ≠ bl → ((((w4.setCell ⟨bl, 2, none⟩ (.int .i64 x)).setCell ⟨bl, 3, none⟩ (.int .i64 (x + 1))).setCell ⟨bl, 4, none⟩ (.int .i64 y)).setCell ⟨bl, 5, none⟩ (.int .i64 (y + 1))).heap[k]? = w4.heap[k]?) := ⟨fun k hk =>
  (Below.heap_setCell _ _ _ k hk).trans ((Below.heap_setCell _ _ _ k hk).trans ((Below.heap_setCell _ _ _ k hk).trans (Below.heap_setCell _ _ _ k hk)))⟩
 have HB5 : Aside0 (Below w.heap.size w ((((w4.setCell ⟨bl, 2, none⟩ (.int .i64 x)).setCell ⟨bl, 3, none⟩ (.int .i64 (x + 1))).setCell ⟨bl, 4, none⟩ (.int .i64 y)).setCell ⟨bl, 5, none⟩ (.int .i64 (y + 1)))) := ⟨(((HB4.out.setCell HNE.out.2.1 _).setCell HNE.out.2.1 _).setCell HNE.out.2.1 _).setCell HNE.out.2.1 _⟩
 clear l2 l3 l4 l5 k2 k3 k4 k5
 generalize (((w4.setCell ⟨bl, 2, none⟩ (.int .i64 x)).setCell ⟨bl, 3, none⟩ (.int .i64 (x + 1))).setCell ⟨bl, 4, none⟩ (.int .i64 y)).setCell ⟨bl, 5, none⟩ (.int .i64 (y + 1)) = w5 at *
 have HZ5 := Aside0.mk ((HK5.out bz HNE.out.1).trans HZ4.out)
 have HO5 := Aside0.mk ((HK5.out bc (Ne.symm HNE.out.2.2.2.1)).trans HO4.out)
 have HP5 := Aside0.mk ((HP.out.keep (HB4.out.block g HG.out.1)).keep (HK5.out g (Ne.symm HNE.out.2.2.2.2.2.1)))
 clear HZ4 HO4 HL4 HB4 HK5
 -- the first part
 have HBe : Aside0 (Below w.heap.size w w5.drew) := ⟨below_drew HB5.out⟩
 have HOe : Aside0 (w5.drew.heap[bc]? = some (.cells #[.slice (some ⟨g, 0, none⟩) P.length cP, .slice A1 L.length c1, .int .i64 a2, .int .i64 a3, .int .i64 a4, .int .i64 a5, .int .i64 a6, .int .i64 a7, .int .i64 a8, .int .i64 a9, .int .i64 a10, .int .i64 a11, .int .i64 a12] 25)) := ⟨HO5.out⟩
 have HLe : Aside0 (w5.drew.heap[bl]? = some (.cells #[.int .i64 a, .int .i64 b, .int .i64 x, .int .i64 (x + 1), .int .i64 y, .int .i64 (y + 1)] 37)) := ⟨HL5.out⟩
 have HZe : Aside0 (w5.drew.heap[bz]? = some (.cells #[.int .i64 0, .int .i64 0, .int .i64 0, .int .i64 0, .int .i64 0, .int .i64 0] 37)) := ⟨HZ5.out⟩
 have HPe : Aside0 (PB w5.drew g cP P) := ⟨HP5.out⟩
 have ya : w5.drew.cell? ⟨bc, 0, none⟩ = some (.slice (some ⟨g, 0, none⟩) P.length cP) := (blk_cell HOe.out 0).trans rfl
 have yb := HPe.out.cell a HA.out.1.1 HA.out.1.2
 obtain ⟨yb, yf⟩ := yb
 clear HZ5 HO5 HL5 HP5 HB5
 have Hm' := Hm.out
 obtain ⟨na, hna⟩ : ∃ na, (rd_T60 P a).f0 = na := ⟨_, rfl⟩
 rw [hna] at yb Hm'
 have p0_ := eq_true HA.out.1.1
 have p1_ := eq_true HA.out.1.2
 refine start_ (n := 19) (S := fun w' => w'.cell? ⟨bc, 0, none⟩ = some (.slice (some ⟨g, 0, none⟩) P.length cP) ∧ w'.cell? ⟨g, a.toNat * 2, none⟩ = some (.int .i64 na)) (ds := [18]) #[false, false, false, false, false, false, false, false, false, false, false, false, false, false, false, false, false, false, false] (by kernel_rfl) rfl rfl ⟨ya, yb⟩ (fun hHeld => ?_)
 generalize w5.drew = we at *
 refine pure_ (i := 0) (N := some 33) (v := ?_) (a' := ?_) #[true, false, false, false, false, false, false, false, false, false, false, false, false, false, false, false, false, false, false] rfl rfl (by kernel_rfl) (fun _ _ _ h => h) (Or.inl ⟨by rfl, ?_⟩) ?_ ?_
 rotate_left
 ·intro w'
  go_simp
  with_reducible rfl
 rotate_left
 ·simp only [Act.put, sAa, sBb, sCc, i64_w, i32_w]
  rfl
 refine pure_ (i := 1) (N := some 34) (v := ?_) (a' := ?_) #[true, true, false, false, false, false, false, false, false, false, false, false, false, false, false, false, false, false, false] rfl rfl (by kernel_rfl) (fun _ _ _ h => h) (Or.inl ⟨by rfl, ?_⟩) ?_ ?_
 rotate_left
 ·intro w'
  go_simp
  with_reducible rfl
 rotate_left
 ·simp only [Act.put, sAa, sBb, sCc, i64_w, i32_w]
  rfl
 refine pure_ (i := 2) (N := some 35) (v := ?_) (a' := ?_) #[true, true, true, false, false, false, false, false, false, false, false, false, false, false, false, false, false, false, false] rfl rfl (by kernel_rfl) (fun _ _ _ h => h) (Or.inl ⟨by rfl, ?_⟩) ?_ ?_
 rotate_left
 ·intro w'
  go_simp
  with_reducible rfl
 rotate_left
 ·simp only [Act.put, sAa, sBb, sCc, i64_w, i32_w]
  rfl
 refine pure_ (i := 4) (N := some 37) (v := ?_) (a' := ?_) #[true, true, true, false, true, false, false, false, false, false, false, false, false, false, false, false, false, false, false] rfl rfl (by kernel_rfl) (fun _ _ _ h => h) (Or.inl ⟨by rfl, ?_⟩) ?_ ?_
 rotate_left
 ·intro w'
  go_simp
  with_reducible rfl
 rotate_left
 ·simp only [Act.put, sAa, sBb, sCc, i64_w, i32_w]
  rfl
 refine pure_ (i := 5) (N := some 38) (v := ?_) (a' := ?_) #[true, true, true, false, true, true, false, false, false, false, false, false, false, false, false, false, false, false, false] rfl rfl (by kernel_rfl) (fun _ _ _ h => h) (Or.inl ⟨by rfl, ?_⟩) ?_ ?_
 rotate_left
 ·intro w'
  go_simp
  with_reducible rfl
 rotate_left
 ·simp only [Act.put, sAa, sBb, sCc, i64_w, i32_w]
  rfl
 refine pure_ (i := 6) (N := some 39) (v := ?_) (a' := ?_) #[true, true, true, false, true, true, true, false, false, false, false, false, false, false, false, false, false, false, false] rfl rfl (by kernel_rfl) (fun _ _ _ h => h) (Or.inl ⟨by rfl, ?_⟩) ?_ ?_
 rotate_left
 ·intro w'
  go_simp
  with_reducible rfl
 rotate_left
 ·simp only [Act.put, sAa, sBb, sCc, i64_w, i32_w]
  rfl
 refine pure_ (i := 7) (N := some 40) (v := ?_) (a' := ?_) #[true, true, true, false, true, true, true, true, false, false, false, false, false, false, false, false, false, false, false] rfl rfl (by kernel_rfl) (fun _ _ _ h => h) (Or.inl ⟨by rfl, ?_⟩) ?_ ?_
 rotate_left
 ·intro w'
  go_simp
  with_reducible rfl
 rotate_left
 ·simp only [Act.put, sAa, sBb, sCc, i64_w, i32_w]
  rfl
 refine pure_ (i := 9) (N := some 42) (v := ?_) (a' := ?_) #[true, true, true, false, true, true, true, true, false, true, false, false, false, false, false, false, false, false, false] rfl rfl (by kernel_rfl) (fun _ _ _ h => h) (Or.inl ⟨by rfl, ?_⟩) ?_ ?_
 rotate_left
 ·intro w'
  go_simp
  with_reducible rfl
 rotate_left
 ·simp only [Act.put, sAa, sBb, sCc, i64_w, i32_w]
  rfl
 refine pure_ (i := 13) (N := some 46) (v := ?_) (a' := ?_) #[true, true, true, false, true, true, true, true, false, true, false, false, false, true, false, false, false, false, false] rfl rfl (by kernel_rfl) (fun _ _ _ h => h) (Or.inl ⟨by rfl, ?_⟩) ?_ ?_
 rotate_left
 ·intro w'
  go_simp
  with_reducible rfl
 rotate_left
 ·simp only [Act.put, sAa, sBb, sCc, i64_w, i32_w]
  rfl
 refine pure_ (i := 14) (N := some 47) (v := ?_) (a' := ?_) #[true, true, true, false, true, true, true, true, false, true, false, false, false, true, true, false, false, false, false] rfl rfl (by kernel_rfl) (fun _ _ _ h => h) (Or.inl ⟨by rfl, ?_⟩) ?_ ?_
 rotate_left
 ·intro w'
  go_simp
  with_reducible rfl
 rotate_left
 ·simp only [Act.put, sAa, sBb, sCc, i64_w, i32_w]
  rfl
 refine take_ (i := 3) (N := some 36) (v := ?_) (a' := ?_) #[true, true, true, true, true, true, true, true, false, true, false, false, false, true, true, false, false, false, false] rfl rfl (by kernel_rfl) (fun _ _ _ h => h) (Or.inl ⟨by rfl, ?_⟩) hHeld ?_ ?_
 rotate_left
 ·rintro w' ⟨s0, s1⟩
  go_simp
  with_reducible rfl
 rotate_left
 ·simp only [Act.put, sAa, sBb, sCc, i64_w, i32_w]
  rfl
 refine take_ (i := 8) (N := some 41) (v := ?_) (a' := ?_) #[true, true, true, true, true, true, true, true, true, true, false, false, false, true, true, false, false, false, false] rfl rfl (by kernel_rfl) (fun _ _ _ h => h) (Or.inl ⟨by rfl, ?_⟩) hHeld ?_ ?_
 rotate_left
 ·rintro w' ⟨s0, s1⟩
  go_simp
  with_reducible rfl
 rotate_left
 ·simp only [Act.put, sAa, sBb, sCc, i64_w, i32_w]
  rfl
 refine pure_ (i := 10) (N := some 43) (v := ?_) (a' := ?_) #[true, true, true, true, true, true, true, true, true, true, true, false, false, true, true, false, false, false, false] rfl rfl (by kernel_rfl) (fun _ _ _ h => h) (Or.inl ⟨by rfl, ?_⟩) ?_ ?_
 rotate_left
 ·intro w'
  go_simp
  with_reducible rfl
 rotate_left
 ·simp only [Act.put, sAa, sBb, sCc, i64_w, i32_w]
  rfl
 refine pure_ (i := 11) (N := some 44) (v := ?_) (a' := ?_) #[true, true, true, true, true, true, true, true, true, true, true, true, false, true, true, false, false, false, false] rfl rfl (by kernel_rfl) (fun _ _ _ h => h) (Or.inl ⟨by rfl, ?_⟩) ?_ ?_
 rotate_left
 ·intro w'
  go_simp
  with_reducible rfl
 rotate_left
 ·simp only [Act.put, sAa, sBb, sCc, i64_w, i32_w]
  rfl
 refine take_ (i := 12) (N := some 45) (v := ?_) (a' := ?_) #[true, true, true, true, true, true, true, true, true, true, true, true, true, true, true, false, false, false, false] rfl rfl (by kernel_rfl) (fun _ _ _ h => h) (Or.inl ⟨by rfl, ?_⟩) hHeld ?_ ?_
 rotate_left
 ·rintro w' ⟨s0, s1⟩
  go_simp
  with_reducible rfl
 rotate_left
 ·simp only [Act.put, sAa, sBb, sCc, i64_w, i32_w]
  rfl
 refine pure_ (i := 15) (N := some 48) (v := ?_) (a' := ?_) #[true, true, true, true, true, true, true, true, true, true, true, true, true, true, true, true, false, false, false] rfl rfl (by kernel_rfl) (fun _ _ _ h => h) (Or.inl ⟨by rfl, ?_⟩) ?_ ?_
 rotate_left
 ·intro w'
  go_simp
  with_reducible rfl
 rotate_left
 ·simp only [Act.put, sAa, sBb, sCc, i64_w, i32_w]
  rfl
 refine pure_ (i := 16) (N := some 49) (v := ?_) (a' := ?_) #[true, true, true, true, true, true, true, true, true, true, true, true, true, true, true, true, true, false, false] rfl rfl (by kernel_rfl) (fun _ _ _ h => h) (Or.inl ⟨by rfl, ?_⟩) ?_ ?_
 rotate_left
 ·intro w'
  go_simp
  with_reducible rfl
 rotate_left
 ·simp only [Act.put, sAa, sBb, sCc, i64_w, i32_w]
  rfl
 refine pure_ (i := 17) (N := some 50) (v := ?_) (a' := ?_) #[true, true, true, true, true, true, true, true, true, true, true, true, true, true, true, true, true, true, false] rfl rfl (by kernel_rfl) (fun _ _ _ h => h) (Or.inl ⟨by rfl, ?_⟩) ?_ ?_
 rotate_left
 ·intro w'
  go_simp
  with_reducible rfl
 rotate_left
 ·simp only [Act.put, sAa, sBb, sCc, i64_w, i32_w]
  rfl
 refine last_ (i := 18) (N := none) #[true, true, true, true, true, true, true, true, true, true, true, true, true, true, true, true, true, true, true] rfl rfl (by kernel_rfl) (by decide) (fun K hK => ?_)
 refine skip_ (w1 := ?_) (by rfl) rfl ?_ ?_
 rotate_left
 ·go_simp
  rfl
 refine hK.out _ _ ?_
 clear hK K
 refine done_ (by kernel_rfl) ?_
 have HP6 := Aside0.mk (HPe.out.put a HA.out.1.1 HA.out.1.2 m)
 have HL6 := Aside0.mk ((Below.heap_setCell we ⟨g, a.toNat * 2, none⟩ (.int .i64 m) bl HNE.out.2.2.2.2.2.1).trans HLe.out)
 have HZ6 := Aside0.mk ((Below.heap_setCell we ⟨g, a.toNat * 2, none⟩ (.int .i64 m) bz HNE.out.2.2.2.2.2.2).trans HZe.out)
 have HO6 := Aside0.mk ((Below.heap_setCell we ⟨g, a.toNat * 2, none⟩ (.int .i64 m) bc (Ne.symm HG.out.2.2)).trans HOe.out)
 have HF6 : Aside0 (∀ k, k < w.heap.size → k ≠ g → (we.setCell ⟨g, a.toNat * 2, none⟩ (.int .i64 m)).heap[k]? = w.heap[k]?) := ⟨fun k hk hg => (Below.heap_setCell we ⟨g, a.toNat * 2, none⟩ (.int .i64 m) k hg).trans (HBe.out.block k hk)⟩
 have HBw : Aside0 (B ≤ w.heap.size) := ⟨by have := HBB.out; have := HG.out; omega⟩
 have HB6 : Aside0 (Below B w (we.setCell ⟨g, a.toNat * 2, none⟩ (.int .i64 m))) := ⟨(HBe.out.mono HBw.out).setCell HBB.out.2 _⟩
 clear ya yb yf HPe HLe HZe HOe HBe p0_ p1_ Hm'
 generalize we.setCell ⟨g, a.toNat * 2, none⟩ (.int .i64 m) = w6 at *
 have hlen1 : (P.set a.toNat ⟨m, (rd_T60 P a).f1⟩).length = P.length := List.length_set
 obtain ⟨P1, hP1⟩ : ∃ P1, P.set a.toNat ⟨m, (rd_T60 P a).f1⟩ = P1 := ⟨_, rfl⟩
 rw [hP1] at HP6 Hn hlen1
 have HP1 := Aside0.mk hP1
 have Hlen := Aside0.mk hlen1
 clear hlen1 hP1 hna
 -- the other part
 have HF : Aside0 (∀ k, k < w.heap.size → k ≠ g → w6.drew.heap[k]? = w.heap[k]?) := ⟨HF6.out⟩
 have HBf : Aside0 (Below B w w6.drew) := ⟨below_drew HB6.out⟩
 have HOf : Aside0 (w6.drew.heap[bc]? = some (.cells #[.slice (some ⟨g, 0, none⟩) P.length cP, .slice A1 L.length c1, .int .i64 a2, .int .i64 a3, .int .i64 a4, .int .i64 a5, .int .i64 a6, .int .i64 a7, .int .i64 a8, .int .i64 a9, .int .i64 a10, .int .i64 a11, .int .i64 a12] 25)) := ⟨HO6.out⟩
 have HLf : Aside0 (w6.drew.heap[bl]? = some (.cells #[.int .i64 a, .int .i64 b, .int .i64 x, .int .i64 (x + 1), .int .i64 y, .int .i64 (y + 1)] 37)) := ⟨HL6.out⟩
 have HZf : Aside0 (w6.drew.heap[bz]? = some (.cells #[.int .i64 0, .int .i64 0, .int .i64 0, .int .i64 0, .int .i64 0, .int .i64 0] 37)) := ⟨HZ6.out⟩
 have HPf : Aside0 (PB w6.drew g cP P1) := ⟨HP6.out⟩
 have ya : w6.drew.cell? ⟨bc, 0, none⟩ = some (.slice (some ⟨g, 0, none⟩) P.length cP) := (blk_cell HOf.out 0).trans rfl
 have yb := HPf.out.cell b HA.out.2.1 (by rw [Hlen.out]; exact HA.out.2.2)
 obtain ⟨yb, yf⟩ := yb
 clear HZ6 HO6 HL6 HP6 HB6 HF6
 have Hn' := Hn.out
 obtain ⟨nb, hnb⟩ : ∃ nb, (rd_T60 P1 b).f0 = nb := ⟨_, rfl⟩
 rw [hnb] at yb Hn'
 have p0_ := eq_true HA.out.2.1
 have p1_ := eq_true HA.out.2.2
 go_upto_region 6 with fail
 refine start_ (n := 19) (S := fun w' => w'.cell? ⟨bc, 0, none⟩ = some (.slice (some ⟨g, 0, none⟩) P.length cP) ∧ w'.cell? ⟨g, b.toNat * 2, none⟩ = some (.int .i64 nb)) (ds := [18]) #[false, false, false, false, false, false, false, false, false, false, false, false, false, false, false, false, false, false, false] (by kernel_rfl) rfl rfl ⟨ya, yb⟩ (fun hHeld => ?_)
 generalize w6.drew = wf at *
 refine pure_ (i := 0) (N := some 51) (v := ?_) (a' := ?_) #[true, false, false, false, false, false, false, false, false, false, false, false, false, false, false, false, false, false, false] rfl rfl (by kernel_rfl) (fun _ _ _ h => h) (Or.inl ⟨by rfl, ?_⟩) ?_ ?_
 rotate_left
 ·intro w'
  go_simp
  with_reducible rfl
 rotate_left
 ·simp only [Act.put, sAa, sBb, sCc, i64_w, i32_w]
  rfl
 refine pure_ (i := 1) (N := some 52) (v := ?_) (a' := ?_) #[true, true, false, false, false, false, false, false, false, false, false, false, false, false, false, false, false, false, false] rfl rfl (by kernel_rfl) (fun _ _ _ h => h) (Or.inl ⟨by rfl, ?_⟩) ?_ ?_
 rotate_left
 ·intro w'
  go_simp
  with_reducible rfl
 rotate_left
 ·simp only [Act.put, sAa, sBb, sCc, i64_w, i32_w]
  rfl
 refine pure_ (i := 2) (N := some 53) (v := ?_) (a' := ?_) #[true, true, true, false, false, false, false, false, false, false, false, false, false, false, false, false, false, false, false] rfl rfl (by kernel_rfl) (fun _ _ _ h => h) (Or.inl ⟨by rfl, ?_⟩) ?_ ?_
 rotate_left
 ·intro w'
  go_simp
  with_reducible rfl
 rotate_left
 ·simp only [Act.put, sAa, sBb, sCc, i64_w, i32_w]
  rfl
 refine pure_ (i := 4) (N := some 55) (v := ?_) (a' := ?_) #[true, true, true, false, true, false, false, false, false, false, false, false, false, false, false, false, false, false, false] rfl rfl (by kernel_rfl) (fun _ _ _ h => h) (Or.inl ⟨by rfl, ?_⟩) ?_ ?_
 rotate_left
 ·intro w'
  go_simp
  with_reducible rfl
 rotate_left
 ·simp only [Act.put, sAa, sBb, sCc, i64_w, i32_w]
  rfl
 refine pure_ (i := 5) (N := some 56) (v := ?_) (a' := ?_) #[true, true, true, false, true, true, false, false, false, false, false, false, false, false, false, false, false, false, false] rfl rfl (by kernel_rfl) (fun _ _ _ h => h) (Or.inl ⟨by rfl, ?_⟩) ?_ ?_
 rotate_left
 ·intro w'
  go_simp
  with_reducible rfl
 rotate_left
 ·simp only [Act.put, sAa, sBb, sCc, i64_w, i32_w]
  rfl
 refine pure_ (i := 6) (N := some 57) (v := ?_) (a' := ?_) #[true, true, true, false, true, true, true, false, false, false, false, false, false, false, false, false, false, false, false] rfl rfl (by kernel_rfl) (fun _ _ _ h => h) (Or.inl ⟨by rfl, ?_⟩) ?_ ?_
 rotate_left
 ·intro w'
  go_simp
  with_reducible rfl
 rotate_left
 ·simp only [Act.put, sAa, sBb, sCc, i64_w, i32_w]
  rfl
 refine pure_ (i := 7) (N := some 58) (v := ?_) (a' := ?_) #[true, true, true, false, true, true, true, true, false, false, false, false, false, false, false, false, false, false, false] rfl rfl (by kernel_rfl) (fun _ _ _ h => h) (Or.inl ⟨by rfl, ?_⟩) ?_ ?_
 rotate_left
 ·intro w'
  go_simp
  with_reducible rfl
 rotate_left
 ·simp only [Act.put, sAa, sBb, sCc, i64_w, i32_w]
  rfl
 refine pure_ (i := 9) (N := some 60) (v := ?_) (a' := ?_) #[true, true, true, false, true, true, true, true, false, true, false, false, false, false, false, false, false, false, false] rfl rfl (by kernel_rfl) (fun _ _ _ h => h) (Or.inl ⟨by rfl, ?_⟩) ?_ ?_
 rotate_left
 ·intro w'
  go_simp
  with_reducible rfl
 rotate_left
 ·simp only [Act.put, sAa, sBb, sCc, i64_w, i32_w]
  rfl
 refine pure_ (i := 13) (N := some 64) (v := ?_) (a' := ?_) #[true, true, true, false, true, true, true, true, false, true, false, false, false, true, false, false, false, false, false] rfl rfl (by kernel_rfl) (fun _ _ _ h => h) (Or.inl ⟨by rfl, ?_⟩) ?_ ?_
 rotate_left
 ·intro w'
  go_simp
  with_reducible rfl
 rotate_left
 ·simp only [Act.put, sAa, sBb, sCc, i64_w, i32_w]
  rfl
 refine pure_ (i := 14) (N := some 65) (v := ?_) (a' := ?_) #[true, true, true, false, true, true, true, true, false, true, false, false, false, true, true, false, false, false, false] rfl rfl (by kernel_rfl) (fun _ _ _ h => h) (Or.inl ⟨by rfl, ?_⟩) ?_ ?_
 rotate_left
 ·intro w'
  go_simp
  with_reducible rfl
 rotate_left
 ·simp only [Act.put, sAa, sBb, sCc, i64_w, i32_w]
  rfl
 refine take_ (i := 3) (N := some 54) (v := ?_) (a' := ?_) #[true, true, true, true, true, true, true, true, false, true, false, false, false, true, true, false, false, false, false] rfl rfl (by kernel_rfl) (fun _ _ _ h => h) (Or.inl ⟨by rfl, ?_⟩) hHeld ?_ ?_
 rotate_left
 ·rintro w' ⟨s0, s1⟩
  go_simp
  with_reducible rfl
 rotate_left
 ·simp only [Act.put, sAa, sBb, sCc, i64_w, i32_w]
  rfl
 refine take_ (i := 8) (N := some 59) (v := ?_) (a' := ?_) #[true, true, true, true, true, true, true, true, true, true, false, false, false, true, true, false, false, false, false] rfl rfl (by kernel_rfl) (fun _ _ _ h => h) (Or.inl ⟨by rfl, ?_⟩) hHeld ?_ ?_
 rotate_left
 ·rintro w' ⟨s0, s1⟩
  go_simp
  with_reducible rfl
 rotate_left
 ·simp only [Act.put, sAa, sBb, sCc, i64_w, i32_w]
  rfl
 refine pure_ (i := 10) (N := some 61) (v := ?_) (a' := ?_) #[true, true, true, true, true, true, true, true, true, true, true, false, false, true, true, false, false, false, false] rfl rfl (by kernel_rfl) (fun _ _ _ h => h) (Or.inl ⟨by rfl, ?_⟩) ?_ ?_
 rotate_left
 ·intro w'
  go_simp
  with_reducible rfl
 rotate_left
 ·simp only [Act.put, sAa, sBb, sCc, i64_w, i32_w]
  rfl
 refine pure_ (i := 11) (N := some 62) (v := ?_) (a' := ?_) #[true, true, true, true, true, true, true, true, true, true, true, true, false, true, true, false, false, false, false] rfl rfl (by kernel_rfl) (fun _ _ _ h => h) (Or.inl ⟨by rfl, ?_⟩) ?_ ?_
 rotate_left
 ·intro w'
  go_simp
  with_reducible rfl
 rotate_left
 ·simp only [Act.put, sAa, sBb, sCc, i64_w, i32_w]
  rfl
 refine take_ (i := 12) (N := some 63) (v := ?_) (a' := ?_) #[true, true, true, true, true, true, true, true, true, true, true, true, true, true, true, false, false, false, false] rfl rfl (by kernel_rfl) (fun _ _ _ h => h) (Or.inl ⟨by rfl, ?_⟩) hHeld ?_ ?_
 rotate_left
 ·rintro w' ⟨s0, s1⟩
  go_simp
  with_reducible rfl
 rotate_left
 ·simp only [Act.put, sAa, sBb, sCc, i64_w, i32_w]
  rfl
 refine pure_ (i := 15) (N := some 66) (v := ?_) (a' := ?_) #[true, true, true, true, true, true, true, true, true, true, true, true, true, true, true, true, false, false, false] rfl rfl (by kernel_rfl) (fun _ _ _ h => h) (Or.inl ⟨by rfl, ?_⟩) ?_ ?_
 rotate_left
 ·intro w'
  go_simp
  with_reducible rfl
 rotate_left
 ·simp only [Act.put, sAa, sBb, sCc, i64_w, i32_w]
  rfl
 refine pure_ (i := 16) (N := some 67) (v := ?_) (a' := ?_) #[true, true, true, true, true, true, true, true, true, true, true, true, true, true, true, true, true, false, false] rfl rfl (by kernel_rfl) (fun _ _ _ h => h) (Or.inl ⟨by rfl, ?_⟩) ?_ ?_
 rotate_left
 ·intro w'
  go_simp
  with_reducible rfl
 rotate_left
 ·simp only [Act.put, sAa, sBb, sCc, i64_w, i32_w]
  rfl
 refine pure_ (i := 17) (N := some 68) (v := ?_) (a' := ?_) #[true, true, true, true, true, true, true, true, true, true, true, true, true, true, true, true, true, true, false] rfl rfl (by kernel_rfl) (fun _ _ _ h => h) (Or.inl ⟨by rfl, ?_⟩) ?_ ?_
 rotate_left
 ·intro w'
  go_simp
  with_reducible rfl
 rotate_left
 ·simp only [Act.put, sAa, sBb, sCc, i64_w, i32_w]
  rfl
 refine last_ (i := 18) (N := none) #[true, true, true, true, true, true, true, true, true, true, true, true, true, true, true, true, true, true, true] rfl rfl (by kernel_rfl) (by decide) (fun K hK => ?_)
 refine skip_ (w1 := ?_) (by rfl) rfl ?_ ?_
 rotate_left
 ·go_simp
  rfl
 refine hK.out _ _ ?_
 clear hK K
 refine done_ (by kernel_rfl) ?_
 have HP7 := Aside0.mk (HPf.out.put b HA.out.2.1 (by rw [Hlen.out]; exact HA.out.2.2) n)
 have HL7 := Aside0.mk ((Below.heap_setCell wf ⟨g, b.toNat * 2, none⟩ (.int .i64 n) bl HNE.out.2.2.2.2.2.1).trans HLf.out)
 have HZ7 := Aside0.mk ((Below.heap_setCell wf ⟨g, b.toNat * 2, none⟩ (.int .i64 n) bz HNE.out.2.2.2.2.2.2).trans HZf.out)
 have HO7 := Aside0.mk ((Below.heap_setCell wf ⟨g, b.toNat * 2, none⟩ (.int .i64 n) bc (Ne.symm HG.out.2.2)).trans HOf.out)
 have HF7 : Aside0 (∀ k, k < w.heap.size → k ≠ g → (wf.setCell ⟨g, b.toNat * 2, none⟩ (.int .i64 n)).heap[k]? = w.heap[k]?) := ⟨fun k hk hg => (Below.heap_setCell wf ⟨g, b.toNat * 2, none⟩ (.int .i64 n) k hg).trans (HF.out k hk hg)⟩
 have HB7 : Aside0 (Below B w (wf.setCell ⟨g, b.toNat * 2, none⟩ (.int .i64 n))) := ⟨HBf.out.setCell HBB.out.2 _⟩
 clear ya yb yf HPf HLf HZf HOf HBf HF p0_ p1_ Hn' hnb
 generalize wf.setCell ⟨g, b.toNat * 2, none⟩ (.int .i64 n) = w7 at *
 obtain ⟨l0, l1, l2, l3, l4, l5⟩ := cellsK6 HL7.out
 have z0 : w7.cell? ⟨bz, 0, none⟩ = some (.int .i64 0) := (blk_cell HZ7.out 0).trans rfl
 have zf0 := blk_frozen HZ7.out 0
 have z1 : w7.cell? ⟨bz, 1, none⟩ = some (.int .i64 0) := (blk_cell HZ7.out 1).trans rfl
 have zf1 := blk_frozen HZ7.out 1
 have z2 : w7.cell? ⟨bz, 2, none⟩ = some (.int .i64 0) := (blk_cell HZ7.out 2).trans rfl
 have zf2 := blk_frozen HZ7.out 2
 have z3 : w7.cell? ⟨bz, 3, none⟩ = some (.int .i64 0) := (blk_cell HZ7.out 3).trans rfl
 have zf3 := blk_frozen HZ7.out 3
 have z4 : w7.cell? ⟨bz, 4, none⟩ = some (.int .i64 0) := (blk_cell HZ7.out 4).trans rfl
 have zf4 := blk_frozen HZ7.out 4
 have z5 : w7.cell? ⟨bz, 5, none⟩ = some (.int .i64 0) := (blk_cell HZ7.out 5).trans rfl
 have zf5 := blk_frozen HZ7.out 5
 have hbz0 : bl ≠ bz := Ne.symm HNE.out.1
 go_wp2_with fail
 refine bodyPost_ret (results_cell_row rfl _ _ bz 37 #[.int .i64 a, .int .i64 b, .int .i64 x, .int .i64 (x + 1), .int .i64 y, .int .i64 (y + 1)] (0, 0) _ rfl (by
  have h := blk_set (blk_set (blk_set (blk_set (blk_set (blk_set HZ7.out 0 (.int .i64 a)) 1 (.int .i64 b)) 2 (.int .i64 x)) 3 (.int .i64 (x + 1))) 4 (.int .i64 y)) 5 (.int .i64 (y + 1))
  simpa using h) Tryd.underlying37 rfl (by kernel_rfl)) rfl ?_
 have HK : ∀ k, k ≠ bz → ((((((w7.setCell ⟨bz, 0, none⟩ (.int .i64 a)).setCell ⟨bz, 1, none⟩ (.int .i64 b)).setCell ⟨bz, 2, none⟩ (.int .i64 x)).setCell ⟨bz, 3, none⟩ (.int .i64 (x + 1))).setCell ⟨bz, 4, none⟩ (.int .i64 y)).setCell ⟨bz, 5, none⟩ (.int .i64 (y + 1))).heap[k]? = w7.heap[k]? := fun k hk =>
  (Below.heap_setCell _ _ _ k hk).trans ((Below.heap_setCell _ _ _ k hk).trans ((Below.heap_setCell _ _ _ k hk).trans ((Below.heap_setCell _ _ _ k hk).trans ((Below.heap_setCell _ _ _ k hk).trans (Below.heap_setCell _ _ _ k hk)))))
 have hBz : B ≤ bz := Nat.le_trans HBw.out HNE.out.2.2.1
 rw [HP1.out]
 refine ⟨rfl, (HK bc (Ne.symm HNE.out.2.2.2.2.1)).trans HO7.out, HP7.out.keep (HK g (Ne.symm HNE.out.2.2.2.2.2.2)), ?_, (((((HB7.out.setCell hBz _).setCell hBz _).setCell hBz _).setCell hBz _).setCell hBz _).setCell hBz _, fun k hlt hk => (HK k (by have := HNE.out; omega)).trans (HF7.out k hlt hk)⟩
 obtain ⟨curP, hcP, _⟩ := HP.out
 refine Kd.R_mono (Kd.R_step (Kd.R_types HL.out hcP (by decide)) (fun k hk hlt => ?_)) (fun _ _ => trivial)
 exact (HK k (by have := HNE.out; omega)).trans (HF7.out k hlt hk.2)
end Go.Proofs.YtkhlndhleiaokaaDoor.MHo
namespace Go.Proofs.YtkhlndhleiaokaaDoor.MHo
open Go.RowKit Go.Proofs.YtkhlndhleiaokaaDoorW.PrintWords Go.Proofs.YtkhlndhleiaokaaDoorW.PrintLast Go.Proofs.YtkhlndhleiaokaaDoorW.PrintMore
attribute [local go_sem] mp_u32s mp_u32m mp_u8s mp_u8m max2_int min2_int max_two min_two max_three min_three max_four min_four
set_option linter.unusedVariables false
set_option linter.unusedSimpArgs false
def drumlineref5_is.f (a0 : Int) (a1 : Int) : Option (Bool) := if a0 ≥ 0 then (some (decide (a0 < a1))) else (some false)
set_option maxHeartbeats 8000000 in
set_option maxRecDepth 100000 in
theorem drumlineref5_is.calls (a0 : Int) (a1 : Int) (r : Bool) (w : World) (h : drumlineref5_is.f a0 a1 = some r) :
  Calls Tryd.prog 50 #[.int .i64 a0, .int .i64 a1] w fun e w' => e = .returned (.bool r) ∧ Drawn0 w w' := by
 have H : (if a0 ≥ 0 then (some (decide (a0 < a1))) else (some false)) = some r := h
 clear h
 by_cases c3 : a0 ≥ 0
 ·rw [if_pos c3] at H
  have c3b0 : decide (0 ≤ a0) = true := decide_eq_true c3
  clear c3
  obtain rfl := Option.some.inj H
  go_enter Tryd.func50, Tryd.ntmps50
  go_wp2
  go_ret
  exact ⟨by first | rfl | (simp; done) | (simp [*]; done), by repeat (first | exact Drawn0.refl _ | apply Drawn0.step)⟩
 ·rw [if_neg c3] at H
  have c3b0 : decide (0 ≤ a0) = false := decide_eq_false c3
  clear c3
  obtain rfl := Option.some.inj H
  go_enter Tryd.func50, Tryd.ntmps50
  go_wp2
  go_ret
  exact ⟨by first | rfl | (simp; done) | (simp [*]; done), by repeat (first | exact Drawn0.refl _ | apply Drawn0.step)⟩
end Go.Proofs.YtkhlndhleiaokaaDoor.MHo
set_option linter.unusedVariables false
set_option linter.unusedSimpArgs false
namespace Go.Proofs.YtkhlndhleiaokaaDoor.MHo
open Go.RowKit Go.Proofs.YtkhlndhleiaokaaDoorW.PrintWords Go.Proofs.YtkhlndhleiaokaaDoorW.PrintLast Go.Proofs.YtkhlndhleiaokaaDoorW.PrintMore
theorem any_take {L : List S37} {p : S37 → Bool} {n i : Int} (h : (L.take n.toNat).any p = false) (h0 : 0 ≤ i) (h1 : i < n) (h2 : n ≤ L.length) : p (rd_T37 L i) = false := by
 rw [List.any_eq_false] at h
 have hi : i.toNat < (L.take n.toNat).length := by rw [List.length_take]; omega
 have := h _ (List.getElem_mem hi)
 rw [List.getElem_take] at this
 have hi2 : i.toNat < L.length := by omega
 have e : rd_T37 L i = L[i.toNat] := by simp [rd_T37, List.getD_eq_getElem?_getD, hi2]
 rw [e]
 simpa using this
set_option maxHeartbeats 8000000 in
set_option maxRecDepth 4000 in
theorem port_no (A0 : Option Addr) (c0 : Nat) (P : List S60) (A1 : Option Addr) (c1 : Nat) (L : List S37) (a2 a3 a4 a5 a6 a7 a8 a9 a10 a11 a12 : Int) (nl part node : Int) (w : World) (hr0 : Kd.C k60 w A0 P.length P) (hc0 : P.length ≤ c0) (hr1 : Kd.C k37 w A1 L.length L) (hc1 : L.length ≤ c1) (hL : L.length ≤ 1000) (hn0 : 0 ≤ nl) (hn1 : nl ≤ L.length) (ht : (L.take nl.toNat).any (takes part node) = false) :
  Calls Tryd.prog 85 #[.agg #[.slice A0 P.length c0, .slice A1 L.length c1, .int .i64 a2, .int .i64 a3, .int .i64 a4, .int .i64 a5, .int .i64 a6, .int .i64 a7, .int .i64 a8, .int .i64 a9, .int .i64 a10, .int .i64 a11, .int .i64 a12], .int .i64 nl, .int .i64 part, .int .i64 node] w fun e w' => e = .returned (.tuple #[.agg #[.int .i64 0, .int .i64 0, .int .i64 0, .int .i64 0], .bool false]) ∧ Below w.heap.size w w' := by
 have HR1 := Aside0.mk hr1
 have HT := Aside0.mk ht
 have HL := Aside0.mk (show L.length ≤ 1000 ∧ 0 ≤ nl ∧ nl ≤ (L.length : Int) from ⟨hL, hn0, hn1⟩)
 clear hr0 hr1 hc0 hc1 ht hL hn0 hn1
 go_enter Tryd.func85, Tryd.ntmps85
 go_upto_region 1 with fail
 have HO : Aside0 (((w.alloc (.cells #[.slice A0 P.length c0, .slice A1 L.length c1, .int .i64 a2, .int .i64 a3, .int .i64 a4, .int .i64 a5, .int .i64 a6, .int .i64 a7, .int .i64 a8, .int .i64 a9, .int .i64 a10, .int .i64 a11, .int .i64 a12] 25)).alloc (.cells #[.int .i64 0, .int .i64 0, .int .i64 0, .int .i64 0] 124)).heap[w.heap.size]? = some (.cells #[.slice A0 P.length c0, .slice A1 L.length c1, .int .i64 a2, .int .i64 a3, .int .i64 a4, .int .i64 a5, .int .i64 a6, .int .i64 a7, .int .i64 a8, .int .i64 a9, .int .i64 a10, .int .i64 a11, .int .i64 a12] 25)) := ⟨by
  have h0 : (w.alloc (.cells #[.slice A0 P.length c0, .slice A1 L.length c1, .int .i64 a2, .int .i64 a3, .int .i64 a4, .int .i64 a5, .int .i64 a6, .int .i64 a7, .int .i64 a8, .int .i64 a9, .int .i64 a10, .int .i64 a11, .int .i64 a12] 25)).heap[w.heap.size]? = some (.cells #[.slice A0 P.length c0, .slice A1 L.length c1, .int .i64 a2, .int .i64 a3, .int .i64 a4, .int .i64 a5, .int .i64 a6, .int .i64 a7, .int .i64 a8, .int .i64 a9, .int .i64 a10, .int .i64 a11, .int .i64 a12] 25) := heap_alloc_new _ _
  exact ((below_alloc (Below.refl _ (w.alloc (.cells #[.slice A0 P.length c0, .slice A1 L.length c1, .int .i64 a2, .int .i64 a3, .int .i64 a4, .int .i64 a5, .int .i64 a6, .int .i64 a7, .int .i64 a8, .int .i64 a9, .int .i64 a10, .int .i64 a11, .int .i64 a12] 25))) _).block _ (blk_lt h0)).trans h0⟩
 have HZ : Aside0 (((w.alloc (.cells #[.slice A0 P.length c0, .slice A1 L.length c1, .int .i64 a2, .int .i64 a3, .int .i64 a4, .int .i64 a5, .int .i64 a6, .int .i64 a7, .int .i64 a8, .int .i64 a9, .int .i64 a10, .int .i64 a11, .int .i64 a12] 25)).alloc (.cells #[.int .i64 0, .int .i64 0, .int .i64 0, .int .i64 0] 124)).heap[w.heap.size + 1]? = some (.cells #[.int .i64 0, .int .i64 0, .int .i64 0, .int .i64 0] 124)) := ⟨by have := heap_alloc_new (w.alloc (.cells #[.slice A0 P.length c0, .slice A1 L.length c1, .int .i64 a2, .int .i64 a3, .int .i64 a4, .int .i64 a5, .int .i64 a6, .int .i64 a7, .int .i64 a8, .int .i64 a9, .int .i64 a10, .int .i64 a11, .int .i64 a12] 25)) (.cells #[.int .i64 0, .int .i64 0, .int .i64 0, .int .i64 0] 124); simpa using this⟩
 have HB := Aside0.mk (below_alloc (below_alloc (Below.refl w.heap.size w) (Obj.cells #[.slice A0 P.length c0, .slice A1 L.length c1, .int .i64 a2, .int .i64 a3, .int .i64 a4, .int .i64 a5, .int .i64 a6, .int .i64 a7, .int .i64 a8, .int .i64 a9, .int .i64 a10, .int .i64 a11, .int .i64 a12] 25)) (Obj.cells #[.int .i64 0, .int .i64 0, .int .i64 0, .int .i64 0] 124))
 generalize (w.alloc (.cells #[.slice A0 P.length c0, .slice A1 L.length c1, .int .i64 a2, .int .i64 a3, .int .i64 a4, .int .i64 a5, .int .i64 a6, .int .i64 a7, .int .i64 a8, .int .i64 a9, .int .i64 a10, .int .i64 a11, .int .i64 a12] 25)).alloc (.cells #[.int .i64 0, .int .i64 0, .int .i64 0, .int .i64 0] 124) = wa at *
 obtain ⟨bz, hbz⟩ : ∃ bz, bz = w.heap.size + 1 := ⟨_, rfl⟩
 obtain ⟨bx, hbx⟩ : ∃ bx, bx = w.heap.size := ⟨_, rfl⟩
 rw [← hbz, ← hbx]
 rw [← hbx] at HO
 rw [← hbz] at HZ
 have HBz : Aside0 (w.heap.size ≤ bz) := ⟨by omega⟩
 clear hbx hbz
 go_wp2_with fail
 go_loopg [10] (L.length + 1) (fun kq v10 w' => ∃ i : Int, v10 = .int .i64 i ∧ Aside0 (kq + i = L.length + 1 ∧ 0 ≤ i ∧ i ≤ nl) ∧ Aside0 (Below w.heap.size w w') ∧ Aside0 (w'.heap[bx]? = some (.cells #[.slice A0 P.length c0, .slice A1 L.length c1, .int .i64 a2, .int .i64 a3, .int .i64 a4, .int .i64 a5, .int .i64 a6, .int .i64 a7, .int .i64 a8, .int .i64 a9, .int .i64 a10, .int .i64 a11, .int .i64 a12] 25)) ∧ Aside0 (w'.heap[bz]? = some (.cells #[.int .i64 0, .int .i64 0, .int .i64 0, .int .i64 0] 124)))
 case atStart => exact ⟨0, rfl, ⟨by have := HL.out; omega⟩, HB, HO, HZ⟩
 case round =>
  clear HO HB HZ
  obtain ⟨i, rfl, HK, HB, HO, HZ⟩ := hrel
  by_cases hi1 : i < nl
  ·have hi0 := HK.out.2.1
   have hiL : i < (L.length : Int) := by have := HL.out; omega
   obtain ⟨ad1, e1, y0, y1, y2, y3, y4, y5⟩ := at_T37 (Kd.C_below HR1.out HB.out) i hi0 hiL
   cases e1
   have htk := any_take HT.out hi0 hi1 HL.out.2.2
   obtain ⟨x, hx⟩ : ∃ x, rd_T37 L i = x := ⟨_, rfl⟩
   rw [hx] at y0 y1 y2 y3 y4 y5 htk
   clear hx
   obtain ⟨a, b, ⟨p0, p1⟩, ⟨q0, q1⟩⟩ := x
   dsimp only at y0 y1 y2 y3 y4 y5
   have htk' : ((a == part && (p0 == node || p1 == node)) || (b == part && (q0 == node || q1 == node))) = false := htk
   clear htk
   have hlt : decide (i < nl) = true := decide_eq_true hi1
   have q0_ := eq_true hi0
   have q1_ := eq_true hiL
   have hw1 : wrap64 (i + 1) = i + 1 := by have := HL.out; unfold wrap64; omega
   cases gk with
   | zero => exact absurd HK.out (by have := HL.out; omega)
   | succ k1 =>
   clear hi0 hi1 hiL
   obtain ⟨x0, x1, x2, x3, x4, x5, x6, x7, x8, x9, x10, x11, x12⟩ := cellsK13 HO.out
   go_upto_region 5 with fail
   have HB1 := Aside0.mk (below_alloc HB.out (Obj.cells #[.int .i64 a, .int .i64 b, .int .i64 p0, .int .i64 p1, .int .i64 q0, .int .i64 q1] 37))
   have HO1 := Aside0.mk (((below_alloc (Below.refl wr.heap.size wr) (Obj.cells #[.int .i64 a, .int .i64 b, .int .i64 p0, .int .i64 p1, .int .i64 q0, .int .i64 q1] 37)).block bx (blk_lt HO.out)).trans HO.out)
   have HZ1 := Aside0.mk (((below_alloc (Below.refl wr.heap.size wr) (Obj.cells #[.int .i64 a, .int .i64 b, .int .i64 p0, .int .i64 p1, .int .i64 q0, .int .i64 q1] 37)).block bz (blk_lt HZ.out)).trans HZ.out)
   have HLk1 : Aside0 ((wr.alloc (Obj.cells #[.int .i64 a, .int .i64 b, .int .i64 p0, .int .i64 p1, .int .i64 q0, .int .i64 q1] 37)).heap[wr.heap.size]? = some (Obj.cells #[.int .i64 a, .int .i64 b, .int .i64 p0, .int .i64 p1, .int .i64 q0, .int .i64 q1] 37)) := ⟨heap_alloc_new _ _⟩
   clear x0 x1 x2 x3 x4 x5 x6 x7 x8 x9 x10 x11 x12 y0 y1 y2 y3 y4 y5
   generalize wr.alloc (Obj.cells #[.int .i64 a, .int .i64 b, .int .i64 p0, .int .i64 p1, .int .i64 q0, .int .i64 q1] 37) = w1 at *
   generalize wr.heap.size = bl at *
   obtain ⟨l0, l1, l2, l3, l4, l5⟩ := cellsK6 HLk1.out
   cases ha : (a == part) with
   | false =>
    cases hb : (b == part) with
    | false =>
     clear htk'
     go_wp2_with fail
     refine wp_loop_rounds 3 ?_
     rw [rounds_succ]
     go_wp2_with fail
     rw [rounds_succ]
     go_wp2_with fail
     rw [rounds_succ]
     go_wp2_with fail
     go_roundg k1
     case measure => have := HK.out; omega
     case rel => exact ⟨i + 1, (by first | rfl | rw [hw1]), ⟨by have := HK.out; have := of_decide_eq_true hlt; omega⟩, HB1, HO1, HZ1⟩
    | true =>
     have hq0 : (q0 == node) = false := by cases h : (q0 == node) <;> simp [hb, h] at htk' ⊢
     have hq1 : (q1 == node) = false := by cases h : (q1 == node) <;> simp [hb, h] at htk' ⊢
     clear htk'
     go_wp2_with fail
     refine wp_loop_rounds 3 ?_
     rw [rounds_succ]
     go_wp2_with fail
     rw [rounds_succ]
     go_wp2_with fail
     rw [rounds_succ]
     go_wp2_with fail
     go_roundg k1
     case measure => have := HK.out; omega
     case rel => exact ⟨i + 1, (by first | rfl | rw [hw1]), ⟨by have := HK.out; have := of_decide_eq_true hlt; omega⟩, HB1, HO1, HZ1⟩
   | true =>
    have hp0 : (p0 == node) = false := by cases h : (p0 == node) <;> simp [ha, h] at htk' ⊢
    have hp1 : (p1 == node) = false := by cases h : (p1 == node) <;> simp [ha, h] at htk' ⊢
    cases hb : (b == part) with
    | false =>
     clear htk'
     go_wp2_with fail
     refine wp_loop_rounds 3 ?_
     rw [rounds_succ]
     go_wp2_with fail
     rw [rounds_succ]
     go_wp2_with fail
     rw [rounds_succ]
     go_wp2_with fail
     go_roundg k1
     case measure => have := HK.out; omega
     case rel => exact ⟨i + 1, (by first | rfl | rw [hw1]), ⟨by have := HK.out; have := of_decide_eq_true hlt; omega⟩, HB1, HO1, HZ1⟩
    | true =>
     have hq0 : (q0 == node) = false := by cases h : (q0 == node) <;> simp [hb, h] at htk' ⊢
     have hq1 : (q1 == node) = false := by cases h : (q1 == node) <;> simp [hb, h] at htk' ⊢
     clear htk'
     go_wp2_with fail
     refine wp_loop_rounds 3 ?_
     rw [rounds_succ]
     go_wp2_with fail
     rw [rounds_succ]
     go_wp2_with fail
     rw [rounds_succ]
     go_wp2_with fail
     go_roundg k1
     case measure => have := HK.out; omega
     case rel => exact ⟨i + 1, (by first | rfl | rw [hw1]), ⟨by have := HK.out; have := of_decide_eq_true hlt; omega⟩, HB1, HO1, HZ1⟩
  ·have hlt : decide (i < nl) = false := decide_eq_false hi1
   obtain ⟨hz0, hz1, hz2, hz3⟩ := cellsK4 HZ.out
   have hf0 := blk_frozen HZ.out 0
   have hf1 := blk_frozen HZ.out 1
   have hf2 := blk_frozen HZ.out 2
   have hf3 := blk_frozen HZ.out 3
   go_wp2_with fail
   refine bodyPost_ret (results_ct rfl _ _ bz 124 #[.int .i64 0, .int .i64 0, .int .i64 0, .int .i64 0] (0, 0) _ rfl (by
    have h := blk_set (blk_set (blk_set (blk_set HZ.out 0 (.int .i64 0)) 1 (.int .i64 0)) 2 (.int .i64 0)) 3 (.int .i64 0)
    simpa using h) Tryd.underlying124 rfl (by kernel_rfl)) rfl ?_
   exact ⟨rfl, (((HB.out.setCell HBz.out _).setCell HBz.out _).setCell HBz.out _).setCell HBz.out _⟩
end Go.Proofs.YtkhlndhleiaokaaDoor.MHo
set_option linter.unusedVariables false
set_option linter.unusedSimpArgs false
namespace Go.Proofs.YtkhlndhleiaokaaDoor.MHo
open Go.RowKit Go.Proofs.YtkhlndhleiaokaaDoorW.PrintWords Go.Proofs.YtkhlndhleiaokaaDoorW.PrintLast Go.Proofs.YtkhlndhleiaokaaDoorW.PrintMore
theorem is_yes (a0 a1 : Int) (w : World) (h0 : 0 ≤ a0) (h1 : a0 < a1) : Calls Tryd.prog 50 #[.int .i64 a0, .int .i64 a1] w fun e w' => e = .returned (.bool true) ∧ Below w.heap.size w w' :=
 (drumlineref5_is.calls a0 a1 true w (by unfold drumlineref5_is.f; rw [if_pos h0, decide_eq_true h1])).mono fun e w' h => ⟨h.1, h.2.below⟩
set_option maxHeartbeats 8000000 in
set_option maxRecDepth 10000 in
theorem ends_no (A0 : Option Addr) (c0 : Nat) (P : List S60) (A1 : Option Addr) (c1 : Nat) (L : List S37) (a2 a3 a4 a5 a6 a7 a8 a9 a10 a11 a12 : Int) (i part n0 n1 : Int) (w : World) (hr0 : Kd.C k60 w A0 P.length P) (hc0 : P.length ≤ c0) (hr1 : Kd.C k37 w A1 L.length L) (hc1 : L.length ≤ c1) (hL : L.length ≤ 1000) (hi0 : 0 ≤ i) (hi1 : i ≤ L.length) (hs : SideOk P (L.take i.toNat) part ⟨n0, n1⟩) :
  Calls Tryd.prog 72 #[.agg #[.slice A0 P.length c0, .slice A1 L.length c1, .int .i64 a2, .int .i64 a3, .int .i64 a4, .int .i64 a5, .int .i64 a6, .int .i64 a7, .int .i64 a8, .int .i64 a9, .int .i64 a10, .int .i64 a11, .int .i64 a12], .int .i64 i, .int .i64 part, .agg #[.int .i64 n0, .int .i64 n1]] w fun e w' => e = .returned (.bool false) ∧ Below w.heap.size w w' := by
 have HR0 := Aside0.mk hr0
 have HR1 := Aside0.mk hr1
 have HC0 := Aside0.mk hc0
 have HC1 := Aside0.mk hc1
 have HS := Aside0.mk hs
 have HL := Aside0.mk (show L.length ≤ 1000 ∧ 0 ≤ i ∧ i ≤ (L.length : Int) from ⟨hL, hi0, hi1⟩)
 obtain ⟨ad0, e0, _⟩ := at_T60 hr0 part hs.part0 hs.part1
 subst e0
 have hne : (n0 == n1) = false := hs.ne
 clear hr0 hr1 hc0 hc1 hs hL hi0 hi1
 go_enter Tryd.func72, Tryd.ntmps72
 go_upto_region 1 with fail
 have HO : Aside0 (((w.alloc (.cells #[.slice (some ad0) P.length c0, .slice A1 L.length c1, .int .i64 a2, .int .i64 a3, .int .i64 a4, .int .i64 a5, .int .i64 a6, .int .i64 a7, .int .i64 a8, .int .i64 a9, .int .i64 a10, .int .i64 a11, .int .i64 a12] 25)).alloc (.cells #[.int .i64 n0, .int .i64 n1] 35)).heap[w.heap.size]? = some (.cells #[.slice (some ad0) P.length c0, .slice A1 L.length c1, .int .i64 a2, .int .i64 a3, .int .i64 a4, .int .i64 a5, .int .i64 a6, .int .i64 a7, .int .i64 a8, .int .i64 a9, .int .i64 a10, .int .i64 a11, .int .i64 a12] 25)) := ⟨by
  have h0 : (w.alloc (.cells #[.slice (some ad0) P.length c0, .slice A1 L.length c1, .int .i64 a2, .int .i64 a3, .int .i64 a4, .int .i64 a5, .int .i64 a6, .int .i64 a7, .int .i64 a8, .int .i64 a9, .int .i64 a10, .int .i64 a11, .int .i64 a12] 25)).heap[w.heap.size]? = some (.cells #[.slice (some ad0) P.length c0, .slice A1 L.length c1, .int .i64 a2, .int .i64 a3, .int .i64 a4, .int .i64 a5, .int .i64 a6, .int .i64 a7, .int .i64 a8, .int .i64 a9, .int .i64 a10, .int .i64 a11, .int .i64 a12] 25) := heap_alloc_new _ _
  exact ((below_alloc (Below.refl _ (w.alloc (.cells #[.slice (some ad0) P.length c0, .slice A1 L.length c1, .int .i64 a2, .int .i64 a3, .int .i64 a4, .int .i64 a5, .int .i64 a6, .int .i64 a7, .int .i64 a8, .int .i64 a9, .int .i64 a10, .int .i64 a11, .int .i64 a12] 25))) _).block _ (blk_lt h0)).trans h0⟩
 have HP : Aside0 (((w.alloc (.cells #[.slice (some ad0) P.length c0, .slice A1 L.length c1, .int .i64 a2, .int .i64 a3, .int .i64 a4, .int .i64 a5, .int .i64 a6, .int .i64 a7, .int .i64 a8, .int .i64 a9, .int .i64 a10, .int .i64 a11, .int .i64 a12] 25)).alloc (.cells #[.int .i64 n0, .int .i64 n1] 35)).heap[w.heap.size + 1]? = some (.cells #[.int .i64 n0, .int .i64 n1] 35)) := ⟨by have := heap_alloc_new (w.alloc (.cells #[.slice (some ad0) P.length c0, .slice A1 L.length c1, .int .i64 a2, .int .i64 a3, .int .i64 a4, .int .i64 a5, .int .i64 a6, .int .i64 a7, .int .i64 a8, .int .i64 a9, .int .i64 a10, .int .i64 a11, .int .i64 a12] 25)) (.cells #[.int .i64 n0, .int .i64 n1] 35); simpa using this⟩
 have HB := Aside0.mk (below_alloc (below_alloc (Below.refl w.heap.size w) (Obj.cells #[.slice (some ad0) P.length c0, .slice A1 L.length c1, .int .i64 a2, .int .i64 a3, .int .i64 a4, .int .i64 a5, .int .i64 a6, .int .i64 a7, .int .i64 a8, .int .i64 a9, .int .i64 a10, .int .i64 a11, .int .i64 a12] 25)) (Obj.cells #[.int .i64 n0, .int .i64 n1] 35))
 generalize (w.alloc (.cells #[.slice (some ad0) P.length c0, .slice A1 L.length c1, .int .i64 a2, .int .i64 a3, .int .i64 a4, .int .i64 a5, .int .i64 a6, .int .i64 a7, .int .i64 a8, .int .i64 a9, .int .i64 a10, .int .i64 a11, .int .i64 a12] 25)).alloc (.cells #[.int .i64 n0, .int .i64 n1] 35) = wa at *
 obtain ⟨bp, hbp⟩ : ∃ bp, bp = w.heap.size + 1 := ⟨_, rfl⟩
 obtain ⟨bx, hbx⟩ : ∃ bx, bx = w.heap.size := ⟨_, rfl⟩
 rw [← hbp, ← hbx]
 rw [← hbx] at HO
 rw [← hbp] at HP
 clear hbx hbp
 have c0 : wa.cell? ⟨bp, 0, none⟩ = some (.int .i64 n0) := (blk_cell HP.out 0).trans rfl
 have c1 : wa.cell? ⟨bp, 1, none⟩ = some (.int .i64 n1) := (blk_cell HP.out 1).trans rfl
 go_wp2_with fail
 clear c0 c1 hne
 go_loopg [9] 3 (fun kq v9 w' => ∃ k : Nat, v9 = .int .i64 k ∧ Aside0 (kq + k = 3 ∧ k ≤ 2) ∧ Aside0 (Below w.heap.size w w') ∧ Aside0 (w'.heap[bx]? = some (.cells #[.slice (some ad0) P.length c0, .slice A1 L.length c1, .int .i64 a2, .int .i64 a3, .int .i64 a4, .int .i64 a5, .int .i64 a6, .int .i64 a7, .int .i64 a8, .int .i64 a9, .int .i64 a10, .int .i64 a11, .int .i64 a12] 25)) ∧ Aside0 (w'.heap[bp]? = some (.cells #[.int .i64 n0, .int .i64 n1] 35)))
 case atStart => exact ⟨0, rfl, ⟨by omega⟩, HB, HO, HP⟩
 case round =>
  clear HO HB HP
  obtain ⟨k, rfl, HK, HB, HO, HP⟩ := hrel
  cases gk with
  | zero => exact absurd HK.out (by omega)
  | succ k1 =>
  rcases (show k = 0 ∨ k = 1 ∨ k = 2 from by have := HK.out; omega) with e | e | e
  ·subst e
   go_upto_region 6 with fail
   have HBd := Aside0.mk (below_drew HB.out)
   have HOd : Aside0 (wr.drew.heap[bx]? = some (.cells #[.slice (some ad0) P.length c0, .slice A1 L.length c1, .int .i64 a2, .int .i64 a3, .int .i64 a4, .int .i64 a5, .int .i64 a6, .int .i64 a7, .int .i64 a8, .int .i64 a9, .int .i64 a10, .int .i64 a11, .int .i64 a12] 25)) := ⟨HO.out⟩
   have HPd : Aside0 (wr.drew.heap[bp]? = some (.cells #[.int .i64 n0, .int .i64 n1] 35)) := ⟨HP.out⟩
   refine start_ (n := 13) (S := fun w' => w'.cell? ⟨bx, 0, none⟩ = some (.slice (some ad0) P.length c0) ∧ w'.cell? ⟨bx, 1, none⟩ = some (.slice A1 L.length c1) ∧ w'.cell? ⟨bx, 2, none⟩ = some (.int .i64 a2) ∧ w'.cell? ⟨bx, 3, none⟩ = some (.int .i64 a3) ∧ w'.cell? ⟨bx, 4, none⟩ = some (.int .i64 a4) ∧ w'.cell? ⟨bx, 5, none⟩ = some (.int .i64 a5) ∧ w'.cell? ⟨bx, 6, none⟩ = some (.int .i64 a6) ∧ w'.cell? ⟨bx, 7, none⟩ = some (.int .i64 a7) ∧ w'.cell? ⟨bx, 8, none⟩ = some (.int .i64 a8) ∧ w'.cell? ⟨bx, 9, none⟩ = some (.int .i64 a9) ∧ w'.cell? ⟨bx, 10, none⟩ = some (.int .i64 a10) ∧ w'.cell? ⟨bx, 11, none⟩ = some (.int .i64 a11) ∧ w'.cell? ⟨bx, 12, none⟩ = some (.int .i64 a12) ∧ w'.cell? ⟨bp, 0, none⟩ = some (.int .i64 n0)) (ds := [11]) #[false, false, false, false, false, false, false, false, false, false, false, false, false] (by kernel_rfl) rfl rfl ⟨(blk_cell HOd.out 0).trans rfl, (blk_cell HOd.out 1).trans rfl, (blk_cell HOd.out 2).trans rfl, (blk_cell HOd.out 3).trans rfl, (blk_cell HOd.out 4).trans rfl, (blk_cell HOd.out 5).trans rfl, (blk_cell HOd.out 6).trans rfl, (blk_cell HOd.out 7).trans rfl, (blk_cell HOd.out 8).trans rfl, (blk_cell HOd.out 9).trans rfl, (blk_cell HOd.out 10).trans rfl, (blk_cell HOd.out 11).trans rfl, (blk_cell HOd.out 12).trans rfl, (blk_cell HPd.out 0).trans rfl⟩ (fun hHeld => ?_)
   generalize wr.drew = wd at HBd HOd HPd hHeld ⊢
   refine pure_ (i := 1) (N := some 23) (v := ?_) (a' := ?_) #[false, true, false, false, false, false, false, false, false, false, false, false, false] rfl rfl (by kernel_rfl) (fun _ _ _ h => h) (Or.inl ⟨by rfl, ?_⟩) ?_ ?_
   rotate_left
   ·intro w'
    go_simp
    with_reducible rfl
   rotate_left
   ·simp only [Act.put, sAa, sBb, sCc, i64_w, i32_w]
    rfl
   refine pure_ (i := 2) (N := some 24) (v := ?_) (a' := ?_) #[false, true, true, false, false, false, false, false, false, false, false, false, false] rfl rfl (by kernel_rfl) (fun _ _ _ h => h) (Or.inl ⟨by rfl, ?_⟩) ?_ ?_
   rotate_left
   ·intro w'
    go_simp
    with_reducible rfl
   rotate_left
   ·simp only [Act.put, sAa, sBb, sCc, i64_w, i32_w]
    rfl
   refine pure_ (i := 3) (N := some 25) (v := ?_) (a' := ?_) #[false, true, true, true, false, false, false, false, false, false, false, false, false] rfl rfl (by kernel_rfl) (fun _ _ _ h => h) (Or.inl ⟨by rfl, ?_⟩) ?_ ?_
   rotate_left
   ·intro w'
    go_simp
    with_reducible rfl
   rotate_left
   ·simp only [Act.put, sAa, sBb, sCc, i64_w, i32_w]
    rfl
   refine pure_ (i := 4) (N := some 26) (v := ?_) (a' := ?_) #[false, true, true, true, true, false, false, false, false, false, false, false, false] rfl rfl (by kernel_rfl) (fun _ _ _ h => h) (Or.inl ⟨by rfl, ?_⟩) ?_ ?_
   rotate_left
   ·intro w'
    go_simp
    with_reducible rfl
   rotate_left
   ·simp only [Act.put, sAa, sBb, sCc, i64_w, i32_w]
    rfl
   refine take_ (i := 0) (N := some 22) (v := ?_) (a' := ?_) #[true, true, true, true, true, false, false, false, false, false, false, false, false] rfl rfl (by kernel_rfl) (fun _ _ _ h => h) (Or.inl ⟨by rfl, ?_⟩) hHeld ?_ ?_
   rotate_left
   ·rintro w' ⟨s0, s1, s2, s3, s4, s5, s6, s7, s8, s9, s10, s11, s12, s13⟩
    go_simp
    with_reducible rfl
   rotate_left
   ·simp only [Act.put, sAa, sBb, sCc, i64_w, i32_w]
    rfl
   refine take_ (i := 5) (N := some 27) (v := ?_) (a' := ?_) #[true, true, true, true, true, true, false, false, false, false, false, false, false] rfl rfl (by kernel_rfl) (fun _ _ _ h => h) (Or.inl ⟨by rfl, ?_⟩) hHeld ?_ ?_
   rotate_left
   ·rintro w' ⟨s0, s1, s2, s3, s4, s5, s6, s7, s8, s9, s10, s11, s12, s13⟩
    go_simp
    with_reducible rfl
   rotate_left
   ·simp only [Act.put, sAa, sBb, sCc, i64_w, i32_w]
    rfl
   refine join_ (σ := Nat) 2 #[true, true, true, true, true, true, true, true, true, true, true, false, false] (fun s_ => [(28, .tuple #[.agg #[.int .i64 0, .int .i64 0, .int .i64 0, .int .i64 0], .bool false]), (10, .pointer (some ⟨s_, 0, none⟩)), (21, .tuple #[.agg #[.int .i64 0, .int .i64 0, .int .i64 0, .int .i64 0], .bool false]), (29, .agg #[.int .i64 0, .int .i64 0, .int .i64 0, .int .i64 0]), (30, .bool false)]) (fun s_ w' => (w'.cell? ⟨bx, 0, none⟩ = some (.slice (some ad0) P.length c0) ∧ w'.cell? ⟨bx, 1, none⟩ = some (.slice A1 L.length c1) ∧ w'.cell? ⟨bx, 2, none⟩ = some (.int .i64 a2) ∧ w'.cell? ⟨bx, 3, none⟩ = some (.int .i64 a3) ∧ w'.cell? ⟨bx, 4, none⟩ = some (.int .i64 a4) ∧ w'.cell? ⟨bx, 5, none⟩ = some (.int .i64 a5) ∧ w'.cell? ⟨bx, 6, none⟩ = some (.int .i64 a6) ∧ w'.cell? ⟨bx, 7, none⟩ = some (.int .i64 a7) ∧ w'.cell? ⟨bx, 8, none⟩ = some (.int .i64 a8) ∧ w'.cell? ⟨bx, 9, none⟩ = some (.int .i64 a9) ∧ w'.cell? ⟨bx, 10, none⟩ = some (.int .i64 a10) ∧ w'.cell? ⟨bx, 11, none⟩ = some (.int .i64 a11) ∧ w'.cell? ⟨bx, 12, none⟩ = some (.int .i64 a12) ∧ w'.cell? ⟨bp, 0, none⟩ = some (.int .i64 n0)) ∧ w'.heap[bx]? = some (.cells #[.slice (some ad0) P.length c0, .slice A1 L.length c1, .int .i64 a2, .int .i64 a3, .int .i64 a4, .int .i64 a5, .int .i64 a6, .int .i64 a7, .int .i64 a8, .int .i64 a9, .int .i64 a10, .int .i64 a11, .int .i64 a12] 25) ∧ w'.heap[bp]? = some (.cells #[.int .i64 n0, .int .i64 n1] 35) ∧ w'.heap[s_]? = some (.cells #[.int .i64 0, .int .i64 0, .int .i64 0, .int .i64 0] 124) ∧ w.heap.size ≤ s_ ∧ Below w.heap.size w w') ?_ ?_
   rotate_left
   ·intro hCont
    refine two_ (i := 6) (j := 10) (Ni := some 28) (Nj := some 10) #[true, true, true, true, true, true, true, false, false, false, false, false, false] #[true, true, true, true, true, true, false, false, false, false, true, false, false] rfl rfl rfl rfl (by kernel_rfl) (by decide) (by decide) (fun K hK => ?_) (fun K hK => ?_)
    ·skip
     refine goes_ Tryd.func85 (by kernel_rfl) rfl #[.agg #[.slice (some ad0) P.length c0, .slice A1 L.length c1, .int .i64 a2, .int .i64 a3, .int .i64 a4, .int .i64 a5, .int .i64 a6, .int .i64 a7, .int .i64 a8, .int .i64 a9, .int .i64 a10, .int .i64 a11, .int .i64 a12], .int .i64 i, .int .i64 part, .int .i64 n0] (by rfl) rfl rfl (by simp only [List.map_toArray, List.map_cons, List.map_nil]; rfl) ?_
     with_reducible refine (port_no (some ad0) c0 P A1 c1 L a2 a3 a4 a5 a6 a7 a8 a9 a10 a11 a12 i part n0 (wd) (Kd.C_below HR0.out HBd.out) HC0.out (Kd.C_below HR1.out HBd.out) HC1.out HL.out.1 HL.out.2.1 HL.out.2.2 HS.out.t0).mono ?_
     rintro e w3 ⟨rfl, hb⟩
     have HB3 := Aside0.mk (below_step HBd.out hb)
     have HO3 := Aside0.mk ((hb.block bx (blk_lt HOd.out)).trans HOd.out)
     have HP3 := Aside0.mk ((hb.block bp (blk_lt HPd.out)).trans HPd.out)
     clear hb
     refine ⟨_, rfl, ?_⟩
     refine hK.out _ _ ⟨(blk_cell HO3.out 0).trans rfl, (blk_cell HO3.out 1).trans rfl, (blk_cell HO3.out 2).trans rfl, (blk_cell HO3.out 3).trans rfl, (blk_cell HO3.out 4).trans rfl, (blk_cell HO3.out 5).trans rfl, (blk_cell HO3.out 6).trans rfl, (blk_cell HO3.out 7).trans rfl, (blk_cell HO3.out 8).trans rfl, (blk_cell HO3.out 9).trans rfl, (blk_cell HO3.out 10).trans rfl, (blk_cell HO3.out 11).trans rfl, (blk_cell HO3.out 12).trans rfl, (blk_cell HP3.out 0).trans rfl⟩ (fun hHeld => ?_)
     clear hK K
     refine norm_ (a' := ?_) ?_ ?_
     rotate_left
     ·show Act.put _ (some 28) _ = _
      simp only [Act.put, sAa, sBb, sCc, i64_w, i32_w]
      rfl
     refine pure_ (i := 7) (N := some 21) (v := ?_) (a' := ?_) #[true, true, true, true, true, true, true, true, false, false, false, false, false] rfl rfl (by kernel_rfl) (fun _ _ _ h => h) (Or.inl ⟨by rfl, ?_⟩) ?_ ?_
     rotate_left
     ·intro w'
      go_simp
      with_reducible rfl
     rotate_left
     ·simp only [Act.put, sAa, sBb, sCc, i64_w, i32_w]
      rfl
     refine pure_ (i := 8) (N := some 29) (v := ?_) (a' := ?_) #[true, true, true, true, true, true, true, true, true, false, false, false, false] rfl rfl (by kernel_rfl) (fun _ _ _ h => h) (Or.inl ⟨by rfl, ?_⟩) ?_ ?_
     rotate_left
     ·intro w'
      go_simp
      with_reducible rfl
     rotate_left
     ·simp only [Act.put, sAa, sBb, sCc, i64_w, i32_w]
      rfl
     refine pure_ (i := 9) (N := some 30) (v := ?_) (a' := ?_) #[true, true, true, true, true, true, true, true, true, true, false, false, false] rfl rfl (by kernel_rfl) (fun _ _ _ h => h) (Or.inl ⟨by rfl, ?_⟩) ?_ ?_
     rotate_left
     ·intro w'
      go_simp
      with_reducible rfl
     rotate_left
     ·simp only [Act.put, sAa, sBb, sCc, i64_w, i32_w]
      rfl
     refine one_ (i := 10) (N := some 10) #[true, true, true, true, true, true, true, true, true, true, true, false, false] rfl rfl (by kernel_rfl) (by decide) (fun K hK => ?_)
     refine value_ (w1 := ?_) (v := ?_) (by rfl) rfl ?_ ?_
     rotate_left 2
     ·go_simp
      constructor
      ·rfl
      ·rfl
     have HO4 := Aside0.mk (((below_alloc (Below.refl w3.heap.size w3) (Obj.cells #[.int .i64 0, .int .i64 0, .int .i64 0, .int .i64 0] 124)).block bx (blk_lt HO3.out)).trans HO3.out)
     have HP4 := Aside0.mk (((below_alloc (Below.refl w3.heap.size w3) (Obj.cells #[.int .i64 0, .int .i64 0, .int .i64 0, .int .i64 0] 124)).block bp (blk_lt HP3.out)).trans HP3.out)
     refine hK.out _ _ ⟨(blk_cell HO4.out 0).trans rfl, (blk_cell HO4.out 1).trans rfl, (blk_cell HO4.out 2).trans rfl, (blk_cell HO4.out 3).trans rfl, (blk_cell HO4.out 4).trans rfl, (blk_cell HO4.out 5).trans rfl, (blk_cell HO4.out 6).trans rfl, (blk_cell HO4.out 7).trans rfl, (blk_cell HO4.out 8).trans rfl, (blk_cell HO4.out 9).trans rfl, (blk_cell HO4.out 10).trans rfl, (blk_cell HO4.out 11).trans rfl, (blk_cell HO4.out 12).trans rfl, (blk_cell HP4.out 0).trans rfl⟩ (fun hHeld => ?_)
     clear hK K
     refine norm_ (a' := ?_) ?_ ?_
     rotate_left
     ·show Act.put _ (some 10) _ = _
      simp only [Act.put, sAa, sBb, sCc, i64_w, i32_w]
      rfl
     exact norm_ (by simp only [putAll, Act.put, sAa, sBb, sCc]) (hCont w3.heap.size _ ⟨⟨(blk_cell HO4.out 0).trans rfl, (blk_cell HO4.out 1).trans rfl, (blk_cell HO4.out 2).trans rfl, (blk_cell HO4.out 3).trans rfl, (blk_cell HO4.out 4).trans rfl, (blk_cell HO4.out 5).trans rfl, (blk_cell HO4.out 6).trans rfl, (blk_cell HO4.out 7).trans rfl, (blk_cell HO4.out 8).trans rfl, (blk_cell HO4.out 9).trans rfl, (blk_cell HO4.out 10).trans rfl, (blk_cell HO4.out 11).trans rfl, (blk_cell HO4.out 12).trans rfl, (blk_cell HP4.out 0).trans rfl⟩, HO4.out, HP4.out, heap_alloc_new w3 (.cells #[.int .i64 0, .int .i64 0, .int .i64 0, .int .i64 0] 124), HB3.out.size, below_alloc HB3.out _⟩)
    ·skip
     refine value_ (w1 := ?_) (v := ?_) (by rfl) rfl ?_ ?_
     rotate_left 2
     ·go_simp
      constructor
      ·rfl
      ·rfl
     have HO4 := Aside0.mk (((below_alloc (Below.refl wd.heap.size wd) (Obj.cells #[.int .i64 0, .int .i64 0, .int .i64 0, .int .i64 0] 124)).block bx (blk_lt HOd.out)).trans HOd.out)
     have HP4 := Aside0.mk (((below_alloc (Below.refl wd.heap.size wd) (Obj.cells #[.int .i64 0, .int .i64 0, .int .i64 0, .int .i64 0] 124)).block bp (blk_lt HPd.out)).trans HPd.out)
     refine hK.out _ _ ⟨(blk_cell HO4.out 0).trans rfl, (blk_cell HO4.out 1).trans rfl, (blk_cell HO4.out 2).trans rfl, (blk_cell HO4.out 3).trans rfl, (blk_cell HO4.out 4).trans rfl, (blk_cell HO4.out 5).trans rfl, (blk_cell HO4.out 6).trans rfl, (blk_cell HO4.out 7).trans rfl, (blk_cell HO4.out 8).trans rfl, (blk_cell HO4.out 9).trans rfl, (blk_cell HO4.out 10).trans rfl, (blk_cell HO4.out 11).trans rfl, (blk_cell HO4.out 12).trans rfl, (blk_cell HP4.out 0).trans rfl⟩ (fun hHeld => ?_)
     clear hK K
     refine norm_ (a' := ?_) ?_ ?_
     rotate_left
     ·show Act.put _ (some 10) _ = _
      simp only [Act.put, sAa, sBb, sCc, i64_w, i32_w]
      rfl
     refine one_ (i := 6) (N := some 28) #[true, true, true, true, true, true, true, false, false, false, true, false, false] rfl rfl (by kernel_rfl) (by decide) (fun K hK => ?_)
     refine goes_ Tryd.func85 (by kernel_rfl) rfl #[.agg #[.slice (some ad0) P.length c0, .slice A1 L.length c1, .int .i64 a2, .int .i64 a3, .int .i64 a4, .int .i64 a5, .int .i64 a6, .int .i64 a7, .int .i64 a8, .int .i64 a9, .int .i64 a10, .int .i64 a11, .int .i64 a12], .int .i64 i, .int .i64 part, .int .i64 n0] (by rfl) rfl rfl (by simp only [List.map_toArray, List.map_cons, List.map_nil]; rfl) ?_
     with_reducible refine (port_no (some ad0) c0 P A1 c1 L a2 a3 a4 a5 a6 a7 a8 a9 a10 a11 a12 i part n0 (wd.alloc (.cells #[.int .i64 0, .int .i64 0, .int .i64 0, .int .i64 0] 124)) (Kd.C_below HR0.out (below_alloc HBd.out (Obj.cells #[.int .i64 0, .int .i64 0, .int .i64 0, .int .i64 0] 124))) HC0.out (Kd.C_below HR1.out (below_alloc HBd.out (Obj.cells #[.int .i64 0, .int .i64 0, .int .i64 0, .int .i64 0] 124))) HC1.out HL.out.1 HL.out.2.1 HL.out.2.2 HS.out.t0).mono ?_
     rintro e w3 ⟨rfl, hb⟩
     have HB3 := Aside0.mk (below_step (below_alloc HBd.out (Obj.cells #[.int .i64 0, .int .i64 0, .int .i64 0, .int .i64 0] 124)) hb)
     have HO3 := Aside0.mk ((hb.block bx (blk_lt (((below_alloc (Below.refl wd.heap.size wd) (Obj.cells #[.int .i64 0, .int .i64 0, .int .i64 0, .int .i64 0] 124)).block bx (blk_lt HOd.out)).trans HOd.out))).trans (((below_alloc (Below.refl wd.heap.size wd) (Obj.cells #[.int .i64 0, .int .i64 0, .int .i64 0, .int .i64 0] 124)).block bx (blk_lt HOd.out)).trans HOd.out))
     have HP3 := Aside0.mk ((hb.block bp (blk_lt (((below_alloc (Below.refl wd.heap.size wd) (Obj.cells #[.int .i64 0, .int .i64 0, .int .i64 0, .int .i64 0] 124)).block bp (blk_lt HPd.out)).trans HPd.out))).trans (((below_alloc (Below.refl wd.heap.size wd) (Obj.cells #[.int .i64 0, .int .i64 0, .int .i64 0, .int .i64 0] 124)).block bp (blk_lt HPd.out)).trans HPd.out))
     have HZ3 := Aside0.mk ((hb.block wd.heap.size (blk_lt (heap_alloc_new wd (.cells #[.int .i64 0, .int .i64 0, .int .i64 0, .int .i64 0] 124)))).trans (heap_alloc_new wd (.cells #[.int .i64 0, .int .i64 0, .int .i64 0, .int .i64 0] 124)))
     clear hb
     refine ⟨_, rfl, ?_⟩
     refine hK.out _ _ ⟨(blk_cell HO3.out 0).trans rfl, (blk_cell HO3.out 1).trans rfl, (blk_cell HO3.out 2).trans rfl, (blk_cell HO3.out 3).trans rfl, (blk_cell HO3.out 4).trans rfl, (blk_cell HO3.out 5).trans rfl, (blk_cell HO3.out 6).trans rfl, (blk_cell HO3.out 7).trans rfl, (blk_cell HO3.out 8).trans rfl, (blk_cell HO3.out 9).trans rfl, (blk_cell HO3.out 10).trans rfl, (blk_cell HO3.out 11).trans rfl, (blk_cell HO3.out 12).trans rfl, (blk_cell HP3.out 0).trans rfl⟩ (fun hHeld => ?_)
     clear hK K
     refine norm_ (a' := ?_) ?_ ?_
     rotate_left
     ·show Act.put _ (some 28) _ = _
      simp only [Act.put, sAa, sBb, sCc, i64_w, i32_w]
      rfl
     refine pure_ (i := 7) (N := some 21) (v := ?_) (a' := ?_) #[true, true, true, true, true, true, true, true, false, false, true, false, false] rfl rfl (by kernel_rfl) (fun _ _ _ h => h) (Or.inl ⟨by rfl, ?_⟩) ?_ ?_
     rotate_left
     ·intro w'
      go_simp
      with_reducible rfl
     rotate_left
     ·simp only [Act.put, sAa, sBb, sCc, i64_w, i32_w]
      rfl
     refine pure_ (i := 8) (N := some 29) (v := ?_) (a' := ?_) #[true, true, true, true, true, true, true, true, true, false, true, false, false] rfl rfl (by kernel_rfl) (fun _ _ _ h => h) (Or.inl ⟨by rfl, ?_⟩) ?_ ?_
     rotate_left
     ·intro w'
      go_simp
      with_reducible rfl
     rotate_left
     ·simp only [Act.put, sAa, sBb, sCc, i64_w, i32_w]
      rfl
     refine pure_ (i := 9) (N := some 30) (v := ?_) (a' := ?_) #[true, true, true, true, true, true, true, true, true, true, true, false, false] rfl rfl (by kernel_rfl) (fun _ _ _ h => h) (Or.inl ⟨by rfl, ?_⟩) ?_ ?_
     rotate_left
     ·intro w'
      go_simp
      with_reducible rfl
     rotate_left
     ·simp only [Act.put, sAa, sBb, sCc, i64_w, i32_w]
      rfl
     exact norm_ (by simp only [putAll, Act.put, sAa, sBb, sCc]) (hCont wd.heap.size _ ⟨⟨(blk_cell HO3.out 0).trans rfl, (blk_cell HO3.out 1).trans rfl, (blk_cell HO3.out 2).trans rfl, (blk_cell HO3.out 3).trans rfl, (blk_cell HO3.out 4).trans rfl, (blk_cell HO3.out 5).trans rfl, (blk_cell HO3.out 6).trans rfl, (blk_cell HO3.out 7).trans rfl, (blk_cell HO3.out 8).trans rfl, (blk_cell HO3.out 9).trans rfl, (blk_cell HO3.out 10).trans rfl, (blk_cell HO3.out 11).trans rfl, (blk_cell HO3.out 12).trans rfl, (blk_cell HP3.out 0).trans rfl⟩, HO3.out, HP3.out, HZ3.out, HBd.out.size, HB3.out⟩)
   rintro s_ w5 ⟨hHeld, hO, hP, hZ, hS, hB⟩
   have HO5 := Aside0.mk hO
   have HP5 := Aside0.mk hP
   have HZ5 := Aside0.mk hZ
   have HS5 := Aside0.mk hS
   have HB5 := Aside0.mk hB
   clear hO hP hZ hS hB
   refine norm_ (a' := ?_) ?_ ?_
   rotate_left
   ·simp only [putAll, Act.put, sAa, sBb, sCc]
    rfl
   refine last_ (i := 11) (N := none) #[true, true, true, true, true, true, true, true, true, true, true, true, false] rfl rfl (by kernel_rfl) (by decide) (fun K hK => ?_)
   obtain ⟨z0, z1, z2, z3⟩ := cellsK4 HZ5.out
   have zf0 := blk_frozen HZ5.out 0
   have zf1 := blk_frozen HZ5.out 1
   have zf2 := blk_frozen HZ5.out 2
   have zf3 := blk_frozen HZ5.out 3
   refine skip_ (w1 := ?_) (by rfl) rfl ?_ ?_
   rotate_left
   ·go_simp
    rfl
   refine hK.out _ _ ?_
   clear hK K
   refine pure_ (i := 12) (N := some 11) (v := ?_) (a' := ?_) #[true, true, true, true, true, true, true, true, true, true, true, true, true] rfl rfl (by kernel_rfl) (fun _ _ _ h => h) (Or.inl ⟨by rfl, ?_⟩) ?_ ?_
   rotate_left
   ·intro w'
    go_simp
    with_reducible rfl
   rotate_left
   ·simp only [Act.put, sAa, sBb, sCc, i64_w, i32_w]
    rfl
   refine done_ (by kernel_rfl) ?_
   have HNx : Aside0 (bx ≠ s_ ∧ bp ≠ s_) := ⟨by
    refine ⟨?_, ?_⟩
    ·rintro rfl
     have h1 := HO5.out
     rw [HZ5.out] at h1
     injection h1 with h1
     injection h1 with _ h1 _
     exact absurd h1 (by decide)
    ·rintro rfl
     have h1 := HP5.out
     rw [HZ5.out] at h1
     injection h1 with h1
     injection h1 with _ h1 _
     exact absurd h1 (by decide)⟩
   have HK5 : Aside0 (∀ k, k ≠ s_ → ((((w5.setCell ⟨s_, 0, none⟩ (.int .i64 0)).setCell ⟨s_, 1, none⟩ (.int .i64 0)).setCell ⟨s_, 2, none⟩ (.int .i64 0)).setCell ⟨s_, 3, none⟩ (.int .i64 0)).heap[k]? = w5.heap[k]?) := ⟨fun k hk => (Below.heap_setCell _ _ _ k hk).trans ((Below.heap_setCell _ _ _ k hk).trans ((Below.heap_setCell _ _ _ k hk).trans (Below.heap_setCell _ _ _ k hk)))⟩
   have HB6 : Aside0 (Below w.heap.size w ((((w5.setCell ⟨s_, 0, none⟩ (.int .i64 0)).setCell ⟨s_, 1, none⟩ (.int .i64 0)).setCell ⟨s_, 2, none⟩ (.int .i64 0)).setCell ⟨s_, 3, none⟩ (.int .i64 0))) := ⟨(((HB5.out.setCell HS5.out _).setCell HS5.out _).setCell HS5.out _).setCell HS5.out _⟩
   clear z0 z1 z2 z3 zf0 zf1 zf2 zf3
   generalize ((((w5.setCell ⟨s_, 0, none⟩ (.int .i64 0)).setCell ⟨s_, 1, none⟩ (.int .i64 0)).setCell ⟨s_, 2, none⟩ (.int .i64 0)).setCell ⟨s_, 3, none⟩ (.int .i64 0)) = w6 at *
   have HO6 := Aside0.mk ((HK5.out bx HNx.out.1).trans HO5.out)
   have HP6 := Aside0.mk ((HK5.out bp HNx.out.2).trans HP5.out)
   clear HO5 HP5 HZ5 HS5 HB5 HK5 HNx
   go_upto_region 7 with fail
   have HBe := Aside0.mk (below_drew HB6.out)
   have HOe : Aside0 (w6.drew.heap[bx]? = some (.cells #[.slice (some ad0) P.length c0, .slice A1 L.length c1, .int .i64 a2, .int .i64 a3, .int .i64 a4, .int .i64 a5, .int .i64 a6, .int .i64 a7, .int .i64 a8, .int .i64 a9, .int .i64 a10, .int .i64 a11, .int .i64 a12] 25)) := ⟨HO6.out⟩
   have HPe : Aside0 (w6.drew.heap[bp]? = some (.cells #[.int .i64 n0, .int .i64 n1] 35)) := ⟨HP6.out⟩
   have hq0 := HS.out.part0
   have hq1 := HS.out.part1
   have hq0_ := eq_true hq0
   have hq1_ := eq_true hq1
   obtain ⟨ad', e0, z0, z1⟩ := at_T60 (Kd.C_below HR0.out HBe.out) part hq0 hq1
   have e0' := Option.some.inj e0
   subst e0'
   clear e0
   refine start_ (n := 14) (S := fun w' => w'.cell? ⟨bp, 0, none⟩ = some (.int .i64 n0) ∧ w'.cell? ⟨bx, 0, none⟩ = some (.slice (some ad0) P.length c0) ∧ w'.cell? (ad0.add (part.toNat * 2)) = some (.int .i64 (rd_T60 P part).f0)) (ds := []) #[false, false, false, false, false, false, false, false, false, false, false, false, false, false] (by kernel_rfl) rfl rfl ⟨(blk_cell HPe.out 0).trans rfl, (blk_cell HOe.out 0).trans rfl, z0⟩ (fun hHeld => ?_)
   generalize w6.drew = we at HBe HOe HPe z0 z1 hHeld ⊢
   refine pure_ (i := 0) (N := some 31) (v := ?_) (a' := ?_) #[true, false, false, false, false, false, false, false, false, false, false, false, false, false] rfl rfl (by kernel_rfl) (fun _ _ _ h => h) (Or.inl ⟨by rfl, ?_⟩) ?_ ?_
   rotate_left
   ·intro w'
    go_simp
    with_reducible rfl
   rotate_left
   ·simp only [Act.put, sAa, sBb, sCc, i64_w, i32_w]
    rfl
   refine pure_ (i := 1) (N := some 32) (v := ?_) (a' := ?_) #[true, true, false, false, false, false, false, false, false, false, false, false, false, false] rfl rfl (by kernel_rfl) (fun _ _ _ h => h) (Or.inl ⟨by rfl, ?_⟩) ?_ ?_
   rotate_left
   ·intro w'
    go_simp
    with_reducible rfl
   rotate_left
   ·simp only [Act.put, sAa, sBb, sCc, i64_w, i32_w]
    rfl
   refine pure_ (i := 3) (N := some 34) (v := ?_) (a' := ?_) #[true, true, false, true, false, false, false, false, false, false, false, false, false, false] rfl rfl (by kernel_rfl) (fun _ _ _ h => h) (Or.inl ⟨by rfl, ?_⟩) ?_ ?_
   rotate_left
   ·intro w'
    go_simp
    with_reducible rfl
   rotate_left
   ·simp only [Act.put, sAa, sBb, sCc, i64_w, i32_w]
    rfl
   refine pure_ (i := 5) (N := some 36) (v := ?_) (a' := ?_) #[true, true, false, true, false, true, false, false, false, false, false, false, false, false] rfl rfl (by kernel_rfl) (fun _ _ _ h => h) (Or.inl ⟨by rfl, ?_⟩) ?_ ?_
   rotate_left
   ·intro w'
    go_simp
    with_reducible rfl
   rotate_left
   ·simp only [Act.put, sAa, sBb, sCc, i64_w, i32_w]
    rfl
   refine take_ (i := 2) (N := some 33) (v := ?_) (a' := ?_) #[true, true, true, true, false, true, false, false, false, false, false, false, false, false] rfl rfl (by kernel_rfl) (fun _ _ _ h => h) (Or.inl ⟨by rfl, ?_⟩) hHeld ?_ ?_
   rotate_left
   ·rintro w' ⟨s0, s1, s2⟩
    go_simp
    with_reducible rfl
   rotate_left
   ·simp only [Act.put, sAa, sBb, sCc, i64_w, i32_w]
    rfl
   refine take_ (i := 4) (N := some 35) (v := ?_) (a' := ?_) #[true, true, true, true, true, true, false, false, false, false, false, false, false, false] rfl rfl (by kernel_rfl) (fun _ _ _ h => h) (Or.inl ⟨by rfl, ?_⟩) hHeld ?_ ?_
   rotate_left
   ·rintro w' ⟨s0, s1, s2⟩
    go_simp
    with_reducible rfl
   rotate_left
   ·simp only [Act.put, sAa, sBb, sCc, i64_w, i32_w]
    rfl
   refine pure_ (i := 6) (N := some 37) (v := ?_) (a' := ?_) #[true, true, true, true, true, true, true, false, false, false, false, false, false, false] rfl rfl (by kernel_rfl) (fun _ _ _ h => h) (Or.inl ⟨by rfl, ?_⟩) ?_ ?_
   rotate_left
   ·intro w'
    go_simp
    with_reducible rfl
   rotate_left
   ·simp only [Act.put, sAa, sBb, sCc, i64_w, i32_w]
    rfl
   refine pure_ (i := 7) (N := some 38) (v := ?_) (a' := ?_) #[true, true, true, true, true, true, true, true, false, false, false, false, false, false] rfl rfl (by kernel_rfl) (fun _ _ _ h => h) (Or.inl ⟨by rfl, ?_⟩) ?_ ?_
   rotate_left
   ·intro w'
    go_simp
    with_reducible rfl
   rotate_left
   ·simp only [Act.put, sAa, sBb, sCc, i64_w, i32_w]
    rfl
   refine take_ (i := 8) (N := some 39) (v := ?_) (a' := ?_) #[true, true, true, true, true, true, true, true, true, false, false, false, false, false] rfl rfl (by kernel_rfl) (fun _ _ _ h => h) (Or.inl ⟨by rfl, ?_⟩) hHeld ?_ ?_
   rotate_left
   ·rintro w' ⟨s0, s1, s2⟩
    go_simp
    with_reducible rfl
   rotate_left
   ·simp only [Act.put, sAa, sBb, sCc, i64_w, i32_w]
    rfl
   refine one_ (i := 9) (N := some 40) #[true, true, true, true, true, true, true, true, true, true, false, false, false, false] rfl rfl (by kernel_rfl) (by decide) (fun K hK => ?_)
   refine goes_ Tryd.func50 (by kernel_rfl) rfl #[.int .i64 n0, .int .i64 (rd_T60 P part).f0] (by rfl) rfl rfl (by simp only [List.map_toArray, List.map_cons, List.map_nil]; rfl) ?_
   with_reducible refine (is_yes n0 (rd_T60 P part).f0 _ HS.out.n0 HS.out.n1).mono ?_
   rintro e w7 ⟨rfl, hb⟩
   have HB7 := Aside0.mk (below_step HBe.out hb)
   have HO7 := Aside0.mk ((hb.block bx (blk_lt HOe.out)).trans HOe.out)
   have HP7 := Aside0.mk ((hb.block bp (blk_lt HPe.out)).trans HPe.out)
   have z7 := (hb.cell (block_lt_of_cell z0)).trans z0
   clear hb
   refine ⟨_, rfl, ?_⟩
   refine hK.out _ _ ⟨(blk_cell HP7.out 0).trans rfl, (blk_cell HO7.out 0).trans rfl, z7⟩ (fun hHeld => ?_)
   clear hK K
   refine norm_ (a' := ?_) ?_ ?_
   rotate_left
   ·show Act.put _ (some 40) _ = _
    simp only [Act.put, sAa, sBb, sCc, i64_w, i32_w]
    rfl
   refine pure_ (i := 10) (N := some 41) (v := ?_) (a' := ?_) #[true, true, true, true, true, true, true, true, true, true, true, false, false, false] rfl rfl (by kernel_rfl) (fun _ _ _ h => h) (Or.inl ⟨by rfl, ?_⟩) ?_ ?_
   rotate_left
   ·intro w'
    go_simp
    with_reducible rfl
   rotate_left
   ·simp only [Act.put, sAa, sBb, sCc, i64_w, i32_w]
    rfl
   refine pure_ (i := 11) (N := some 42) (v := ?_) (a' := ?_) #[true, true, true, true, true, true, true, true, true, true, true, true, false, false] rfl rfl (by kernel_rfl) (fun _ _ _ h => h) (Or.inl ⟨by rfl, ?_⟩) ?_ ?_
   rotate_left
   ·intro w'
    go_simp
    with_reducible rfl
   rotate_left
   ·simp only [Act.put, sAa, sBb, sCc, i64_w, i32_w]
    rfl
   refine pure_ (i := 12) (N := some 43) (v := ?_) (a' := ?_) #[true, true, true, true, true, true, true, true, true, true, true, true, true, false] rfl rfl (by kernel_rfl) (fun _ _ _ h => h) (Or.inl ⟨by rfl, ?_⟩) ?_ ?_
   rotate_left
   ·intro w'
    go_simp
    with_reducible rfl
   rotate_left
   ·simp only [Act.put, sAa, sBb, sCc, i64_w, i32_w]
    rfl
   refine pure_ (i := 13) (N := some 44) (v := ?_) (a' := ?_) #[true, true, true, true, true, true, true, true, true, true, true, true, true, true] rfl rfl (by kernel_rfl) (fun _ _ _ h => h) (Or.inl ⟨by rfl, ?_⟩) ?_ ?_
   rotate_left
   ·intro w'
    go_simp
    with_reducible rfl
   rotate_left
   ·simp only [Act.put, sAa, sBb, sCc, i64_w, i32_w]
    rfl
   refine done_ (by kernel_rfl) ?_
   clear z0 z1 z7
   go_wp2_with fail
   go_roundg k1
   case measure => have := HK.out; omega
   case rel => exact ⟨1, rfl, ⟨by have := HK.out; omega⟩, HB7, HO7, HP7⟩
  ·subst e
   go_upto_region 6 with fail
   have HBd := Aside0.mk (below_drew HB.out)
   have HOd : Aside0 (wr.drew.heap[bx]? = some (.cells #[.slice (some ad0) P.length c0, .slice A1 L.length c1, .int .i64 a2, .int .i64 a3, .int .i64 a4, .int .i64 a5, .int .i64 a6, .int .i64 a7, .int .i64 a8, .int .i64 a9, .int .i64 a10, .int .i64 a11, .int .i64 a12] 25)) := ⟨HO.out⟩
   have HPd : Aside0 (wr.drew.heap[bp]? = some (.cells #[.int .i64 n0, .int .i64 n1] 35)) := ⟨HP.out⟩
   refine start_ (n := 13) (S := fun w' => w'.cell? ⟨bx, 0, none⟩ = some (.slice (some ad0) P.length c0) ∧ w'.cell? ⟨bx, 1, none⟩ = some (.slice A1 L.length c1) ∧ w'.cell? ⟨bx, 2, none⟩ = some (.int .i64 a2) ∧ w'.cell? ⟨bx, 3, none⟩ = some (.int .i64 a3) ∧ w'.cell? ⟨bx, 4, none⟩ = some (.int .i64 a4) ∧ w'.cell? ⟨bx, 5, none⟩ = some (.int .i64 a5) ∧ w'.cell? ⟨bx, 6, none⟩ = some (.int .i64 a6) ∧ w'.cell? ⟨bx, 7, none⟩ = some (.int .i64 a7) ∧ w'.cell? ⟨bx, 8, none⟩ = some (.int .i64 a8) ∧ w'.cell? ⟨bx, 9, none⟩ = some (.int .i64 a9) ∧ w'.cell? ⟨bx, 10, none⟩ = some (.int .i64 a10) ∧ w'.cell? ⟨bx, 11, none⟩ = some (.int .i64 a11) ∧ w'.cell? ⟨bx, 12, none⟩ = some (.int .i64 a12) ∧ w'.cell? ⟨bp, 1, none⟩ = some (.int .i64 n1)) (ds := [11]) #[false, false, false, false, false, false, false, false, false, false, false, false, false] (by kernel_rfl) rfl rfl ⟨(blk_cell HOd.out 0).trans rfl, (blk_cell HOd.out 1).trans rfl, (blk_cell HOd.out 2).trans rfl, (blk_cell HOd.out 3).trans rfl, (blk_cell HOd.out 4).trans rfl, (blk_cell HOd.out 5).trans rfl, (blk_cell HOd.out 6).trans rfl, (blk_cell HOd.out 7).trans rfl, (blk_cell HOd.out 8).trans rfl, (blk_cell HOd.out 9).trans rfl, (blk_cell HOd.out 10).trans rfl, (blk_cell HOd.out 11).trans rfl, (blk_cell HOd.out 12).trans rfl, (blk_cell HPd.out 1).trans rfl⟩ (fun hHeld => ?_)
   generalize wr.drew = wd at HBd HOd HPd hHeld ⊢
   refine pure_ (i := 1) (N := some 23) (v := ?_) (a' := ?_) #[false, true, false, false, false, false, false, false, false, false, false, false, false] rfl rfl (by kernel_rfl) (fun _ _ _ h => h) (Or.inl ⟨by rfl, ?_⟩) ?_ ?_
   rotate_left
   ·intro w'
    go_simp
    with_reducible rfl
   rotate_left
   ·simp only [Act.put, sAa, sBb, sCc, i64_w, i32_w]
    rfl
   refine pure_ (i := 2) (N := some 24) (v := ?_) (a' := ?_) #[false, true, true, false, false, false, false, false, false, false, false, false, false] rfl rfl (by kernel_rfl) (fun _ _ _ h => h) (Or.inl ⟨by rfl, ?_⟩) ?_ ?_
   rotate_left
   ·intro w'
    go_simp
    with_reducible rfl
   rotate_left
   ·simp only [Act.put, sAa, sBb, sCc, i64_w, i32_w]
    rfl
   refine pure_ (i := 3) (N := some 25) (v := ?_) (a' := ?_) #[false, true, true, true, false, false, false, false, false, false, false, false, false] rfl rfl (by kernel_rfl) (fun _ _ _ h => h) (Or.inl ⟨by rfl, ?_⟩) ?_ ?_
   rotate_left
   ·intro w'
    go_simp
    with_reducible rfl
   rotate_left
   ·simp only [Act.put, sAa, sBb, sCc, i64_w, i32_w]
    rfl
   refine pure_ (i := 4) (N := some 26) (v := ?_) (a' := ?_) #[false, true, true, true, true, false, false, false, false, false, false, false, false] rfl rfl (by kernel_rfl) (fun _ _ _ h => h) (Or.inl ⟨by rfl, ?_⟩) ?_ ?_
   rotate_left
   ·intro w'
    go_simp
    with_reducible rfl
   rotate_left
   ·simp only [Act.put, sAa, sBb, sCc, i64_w, i32_w]
    rfl
   refine take_ (i := 0) (N := some 22) (v := ?_) (a' := ?_) #[true, true, true, true, true, false, false, false, false, false, false, false, false] rfl rfl (by kernel_rfl) (fun _ _ _ h => h) (Or.inl ⟨by rfl, ?_⟩) hHeld ?_ ?_
   rotate_left
   ·rintro w' ⟨s0, s1, s2, s3, s4, s5, s6, s7, s8, s9, s10, s11, s12, s13⟩
    go_simp
    with_reducible rfl
   rotate_left
   ·simp only [Act.put, sAa, sBb, sCc, i64_w, i32_w]
    rfl
   refine take_ (i := 5) (N := some 27) (v := ?_) (a' := ?_) #[true, true, true, true, true, true, false, false, false, false, false, false, false] rfl rfl (by kernel_rfl) (fun _ _ _ h => h) (Or.inl ⟨by rfl, ?_⟩) hHeld ?_ ?_
   rotate_left
   ·rintro w' ⟨s0, s1, s2, s3, s4, s5, s6, s7, s8, s9, s10, s11, s12, s13⟩
    go_simp
    with_reducible rfl
   rotate_left
   ·simp only [Act.put, sAa, sBb, sCc, i64_w, i32_w]
    rfl
   refine join_ (σ := Nat) 2 #[true, true, true, true, true, true, true, true, true, true, true, false, false] (fun s_ => [(28, .tuple #[.agg #[.int .i64 0, .int .i64 0, .int .i64 0, .int .i64 0], .bool false]), (10, .pointer (some ⟨s_, 0, none⟩)), (21, .tuple #[.agg #[.int .i64 0, .int .i64 0, .int .i64 0, .int .i64 0], .bool false]), (29, .agg #[.int .i64 0, .int .i64 0, .int .i64 0, .int .i64 0]), (30, .bool false)]) (fun s_ w' => (w'.cell? ⟨bx, 0, none⟩ = some (.slice (some ad0) P.length c0) ∧ w'.cell? ⟨bx, 1, none⟩ = some (.slice A1 L.length c1) ∧ w'.cell? ⟨bx, 2, none⟩ = some (.int .i64 a2) ∧ w'.cell? ⟨bx, 3, none⟩ = some (.int .i64 a3) ∧ w'.cell? ⟨bx, 4, none⟩ = some (.int .i64 a4) ∧ w'.cell? ⟨bx, 5, none⟩ = some (.int .i64 a5) ∧ w'.cell? ⟨bx, 6, none⟩ = some (.int .i64 a6) ∧ w'.cell? ⟨bx, 7, none⟩ = some (.int .i64 a7) ∧ w'.cell? ⟨bx, 8, none⟩ = some (.int .i64 a8) ∧ w'.cell? ⟨bx, 9, none⟩ = some (.int .i64 a9) ∧ w'.cell? ⟨bx, 10, none⟩ = some (.int .i64 a10) ∧ w'.cell? ⟨bx, 11, none⟩ = some (.int .i64 a11) ∧ w'.cell? ⟨bx, 12, none⟩ = some (.int .i64 a12) ∧ w'.cell? ⟨bp, 1, none⟩ = some (.int .i64 n1)) ∧ w'.heap[bx]? = some (.cells #[.slice (some ad0) P.length c0, .slice A1 L.length c1, .int .i64 a2, .int .i64 a3, .int .i64 a4, .int .i64 a5, .int .i64 a6, .int .i64 a7, .int .i64 a8, .int .i64 a9, .int .i64 a10, .int .i64 a11, .int .i64 a12] 25) ∧ w'.heap[bp]? = some (.cells #[.int .i64 n0, .int .i64 n1] 35) ∧ w'.heap[s_]? = some (.cells #[.int .i64 0, .int .i64 0, .int .i64 0, .int .i64 0] 124) ∧ w.heap.size ≤ s_ ∧ Below w.heap.size w w') ?_ ?_
   rotate_left
   ·intro hCont
    refine two_ (i := 6) (j := 10) (Ni := some 28) (Nj := some 10) #[true, true, true, true, true, true, true, false, false, false, false, false, false] #[true, true, true, true, true, true, false, false, false, false, true, false, false] rfl rfl rfl rfl (by kernel_rfl) (by decide) (by decide) (fun K hK => ?_) (fun K hK => ?_)
    ·skip
     refine goes_ Tryd.func85 (by kernel_rfl) rfl #[.agg #[.slice (some ad0) P.length c0, .slice A1 L.length c1, .int .i64 a2, .int .i64 a3, .int .i64 a4, .int .i64 a5, .int .i64 a6, .int .i64 a7, .int .i64 a8, .int .i64 a9, .int .i64 a10, .int .i64 a11, .int .i64 a12], .int .i64 i, .int .i64 part, .int .i64 n1] (by rfl) rfl rfl (by simp only [List.map_toArray, List.map_cons, List.map_nil]; rfl) ?_
     with_reducible refine (port_no (some ad0) c0 P A1 c1 L a2 a3 a4 a5 a6 a7 a8 a9 a10 a11 a12 i part n1 (wd) (Kd.C_below HR0.out HBd.out) HC0.out (Kd.C_below HR1.out HBd.out) HC1.out HL.out.1 HL.out.2.1 HL.out.2.2 HS.out.t1).mono ?_
     rintro e w3 ⟨rfl, hb⟩
     have HB3 := Aside0.mk (below_step HBd.out hb)
     have HO3 := Aside0.mk ((hb.block bx (blk_lt HOd.out)).trans HOd.out)
     have HP3 := Aside0.mk ((hb.block bp (blk_lt HPd.out)).trans HPd.out)
     clear hb
     refine ⟨_, rfl, ?_⟩
     refine hK.out _ _ ⟨(blk_cell HO3.out 0).trans rfl, (blk_cell HO3.out 1).trans rfl, (blk_cell HO3.out 2).trans rfl, (blk_cell HO3.out 3).trans rfl, (blk_cell HO3.out 4).trans rfl, (blk_cell HO3.out 5).trans rfl, (blk_cell HO3.out 6).trans rfl, (blk_cell HO3.out 7).trans rfl, (blk_cell HO3.out 8).trans rfl, (blk_cell HO3.out 9).trans rfl, (blk_cell HO3.out 10).trans rfl, (blk_cell HO3.out 11).trans rfl, (blk_cell HO3.out 12).trans rfl, (blk_cell HP3.out 1).trans rfl⟩ (fun hHeld => ?_)
     clear hK K
     refine norm_ (a' := ?_) ?_ ?_
     rotate_left
     ·show Act.put _ (some 28) _ = _
      simp only [Act.put, sAa, sBb, sCc, i64_w, i32_w]
      rfl
     refine pure_ (i := 7) (N := some 21) (v := ?_) (a' := ?_) #[true, true, true, true, true, true, true, true, false, false, false, false, false] rfl rfl (by kernel_rfl) (fun _ _ _ h => h) (Or.inl ⟨by rfl, ?_⟩) ?_ ?_
     rotate_left
     ·intro w'
      go_simp
      with_reducible rfl
     rotate_left
     ·simp only [Act.put, sAa, sBb, sCc, i64_w, i32_w]
      rfl
     refine pure_ (i := 8) (N := some 29) (v := ?_) (a' := ?_) #[true, true, true, true, true, true, true, true, true, false, false, false, false] rfl rfl (by kernel_rfl) (fun _ _ _ h => h) (Or.inl ⟨by rfl, ?_⟩) ?_ ?_
     rotate_left
     ·intro w'
      go_simp
      with_reducible rfl
     rotate_left
     ·simp only [Act.put, sAa, sBb, sCc, i64_w, i32_w]
      rfl
     refine pure_ (i := 9) (N := some 30) (v := ?_) (a' := ?_) #[true, true, true, true, true, true, true, true, true, true, false, false, false] rfl rfl (by kernel_rfl) (fun _ _ _ h => h) (Or.inl ⟨by rfl, ?_⟩) ?_ ?_
     rotate_left
     ·intro w'
      go_simp
      with_reducible rfl
     rotate_left
     ·simp only [Act.put, sAa, sBb, sCc, i64_w, i32_w]
      rfl
     refine one_ (i := 10) (N := some 10) #[true, true, true, true, true, true, true, true, true, true, true, false, false] rfl rfl (by kernel_rfl) (by decide) (fun K hK => ?_)
     refine value_ (w1 := ?_) (v := ?_) (by rfl) rfl ?_ ?_
     rotate_left 2
     ·go_simp
      constructor
      ·rfl
      ·rfl
     have HO4 := Aside0.mk (((below_alloc (Below.refl w3.heap.size w3) (Obj.cells #[.int .i64 0, .int .i64 0, .int .i64 0, .int .i64 0] 124)).block bx (blk_lt HO3.out)).trans HO3.out)
     have HP4 := Aside0.mk (((below_alloc (Below.refl w3.heap.size w3) (Obj.cells #[.int .i64 0, .int .i64 0, .int .i64 0, .int .i64 0] 124)).block bp (blk_lt HP3.out)).trans HP3.out)
     refine hK.out _ _ ⟨(blk_cell HO4.out 0).trans rfl, (blk_cell HO4.out 1).trans rfl, (blk_cell HO4.out 2).trans rfl, (blk_cell HO4.out 3).trans rfl, (blk_cell HO4.out 4).trans rfl, (blk_cell HO4.out 5).trans rfl, (blk_cell HO4.out 6).trans rfl, (blk_cell HO4.out 7).trans rfl, (blk_cell HO4.out 8).trans rfl, (blk_cell HO4.out 9).trans rfl, (blk_cell HO4.out 10).trans rfl, (blk_cell HO4.out 11).trans rfl, (blk_cell HO4.out 12).trans rfl, (blk_cell HP4.out 1).trans rfl⟩ (fun hHeld => ?_)
     clear hK K
     refine norm_ (a' := ?_) ?_ ?_
     rotate_left
     ·show Act.put _ (some 10) _ = _
      simp only [Act.put, sAa, sBb, sCc, i64_w, i32_w]
      rfl
     exact norm_ (by simp only [putAll, Act.put, sAa, sBb, sCc]) (hCont w3.heap.size _ ⟨⟨(blk_cell HO4.out 0).trans rfl, (blk_cell HO4.out 1).trans rfl, (blk_cell HO4.out 2).trans rfl, (blk_cell HO4.out 3).trans rfl, (blk_cell HO4.out 4).trans rfl, (blk_cell HO4.out 5).trans rfl, (blk_cell HO4.out 6).trans rfl, (blk_cell HO4.out 7).trans rfl, (blk_cell HO4.out 8).trans rfl, (blk_cell HO4.out 9).trans rfl, (blk_cell HO4.out 10).trans rfl, (blk_cell HO4.out 11).trans rfl, (blk_cell HO4.out 12).trans rfl, (blk_cell HP4.out 1).trans rfl⟩, HO4.out, HP4.out, heap_alloc_new w3 (.cells #[.int .i64 0, .int .i64 0, .int .i64 0, .int .i64 0] 124), HB3.out.size, below_alloc HB3.out _⟩)
    ·skip
     refine value_ (w1 := ?_) (v := ?_) (by rfl) rfl ?_ ?_
     rotate_left 2
     ·go_simp
      constructor
      ·rfl
      ·rfl
     have HO4 := Aside0.mk (((below_alloc (Below.refl wd.heap.size wd) (Obj.cells #[.int .i64 0, .int .i64 0, .int .i64 0, .int .i64 0] 124)).block bx (blk_lt HOd.out)).trans HOd.out)
     have HP4 := Aside0.mk (((below_alloc (Below.refl wd.heap.size wd) (Obj.cells #[.int .i64 0, .int .i64 0, .int .i64 0, .int .i64 0] 124)).block bp (blk_lt HPd.out)).trans HPd.out)
     refine hK.out _ _ ⟨(blk_cell HO4.out 0).trans rfl, (blk_cell HO4.out 1).trans rfl, (blk_cell HO4.out 2).trans rfl, (blk_cell HO4.out 3).trans rfl, (blk_cell HO4.out 4).trans rfl, (blk_cell HO4.out 5).trans rfl, (blk_cell HO4.out 6).trans rfl, (blk_cell HO4.out 7).trans rfl, (blk_cell HO4.out 8).trans rfl, (blk_cell HO4.out 9).trans rfl, (blk_cell HO4.out 10).trans rfl, (blk_cell HO4.out 11).trans rfl, (blk_cell HO4.out 12).trans rfl, (blk_cell HP4.out 1).trans rfl⟩ (fun hHeld => ?_)
     clear hK K
     refine norm_ (a' := ?_) ?_ ?_
     rotate_left
     ·show Act.put _ (some 10) _ = _
      simp only [Act.put, sAa, sBb, sCc, i64_w, i32_w]
      rfl
     refine one_ (i := 6) (N := some 28) #[true, true, true, true, true, true, true, false, false, false, true, false, false] rfl rfl (by kernel_rfl) (by decide) (fun K hK => ?_)
     refine goes_ Tryd.func85 (by kernel_rfl) rfl #[.agg #[.slice (some ad0) P.length c0, .slice A1 L.length c1, .int .i64 a2, .int .i64 a3, .int .i64 a4, .int .i64 a5, .int .i64 a6, .int .i64 a7, .int .i64 a8, .int .i64 a9, .int .i64 a10, .int .i64 a11, .int .i64 a12], .int .i64 i, .int .i64 part, .int .i64 n1] (by rfl) rfl rfl (by simp only [List.map_toArray, List.map_cons, List.map_nil]; rfl) ?_
     with_reducible refine (port_no (some ad0) c0 P A1 c1 L a2 a3 a4 a5 a6 a7 a8 a9 a10 a11 a12 i part n1 (wd.alloc (.cells #[.int .i64 0, .int .i64 0, .int .i64 0, .int .i64 0] 124)) (Kd.C_below HR0.out (below_alloc HBd.out (Obj.cells #[.int .i64 0, .int .i64 0, .int .i64 0, .int .i64 0] 124))) HC0.out (Kd.C_below HR1.out (below_alloc HBd.out (Obj.cells #[.int .i64 0, .int .i64 0, .int .i64 0, .int .i64 0] 124))) HC1.out HL.out.1 HL.out.2.1 HL.out.2.2 HS.out.t1).mono ?_
     rintro e w3 ⟨rfl, hb⟩
     have HB3 := Aside0.mk (below_step (below_alloc HBd.out (Obj.cells #[.int .i64 0, .int .i64 0, .int .i64 0, .int .i64 0] 124)) hb)
     have HO3 := Aside0.mk ((hb.block bx (blk_lt (((below_alloc (Below.refl wd.heap.size wd) (Obj.cells #[.int .i64 0, .int .i64 0, .int .i64 0, .int .i64 0] 124)).block bx (blk_lt HOd.out)).trans HOd.out))).trans (((below_alloc (Below.refl wd.heap.size wd) (Obj.cells #[.int .i64 0, .int .i64 0, .int .i64 0, .int .i64 0] 124)).block bx (blk_lt HOd.out)).trans HOd.out))
     have HP3 := Aside0.mk ((hb.block bp (blk_lt (((below_alloc (Below.refl wd.heap.size wd) (Obj.cells #[.int .i64 0, .int .i64 0, .int .i64 0, .int .i64 0] 124)).block bp (blk_lt HPd.out)).trans HPd.out))).trans (((below_alloc (Below.refl wd.heap.size wd) (Obj.cells #[.int .i64 0, .int .i64 0, .int .i64 0, .int .i64 0] 124)).block bp (blk_lt HPd.out)).trans HPd.out))
     have HZ3 := Aside0.mk ((hb.block wd.heap.size (blk_lt (heap_alloc_new wd (.cells #[.int .i64 0, .int .i64 0, .int .i64 0, .int .i64 0] 124)))).trans (heap_alloc_new wd (.cells #[.int .i64 0, .int .i64 0, .int .i64 0, .int .i64 0] 124)))
     clear hb
     refine ⟨_, rfl, ?_⟩
     refine hK.out _ _ ⟨(blk_cell HO3.out 0).trans rfl, (blk_cell HO3.out 1).trans rfl, (blk_cell HO3.out 2).trans rfl, (blk_cell HO3.out 3).trans rfl, (blk_cell HO3.out 4).trans rfl, (blk_cell HO3.out 5).trans rfl, (blk_cell HO3.out 6).trans rfl, (blk_cell HO3.out 7).trans rfl, (blk_cell HO3.out 8).trans rfl, (blk_cell HO3.out 9).trans rfl, (blk_cell HO3.out 10).trans rfl, (blk_cell HO3.out 11).trans rfl, (blk_cell HO3.out 12).trans rfl, (blk_cell HP3.out 1).trans rfl⟩ (fun hHeld => ?_)
     clear hK K
     refine norm_ (a' := ?_) ?_ ?_
     rotate_left
     ·show Act.put _ (some 28) _ = _
      simp only [Act.put, sAa, sBb, sCc, i64_w, i32_w]
      rfl
     refine pure_ (i := 7) (N := some 21) (v := ?_) (a' := ?_) #[true, true, true, true, true, true, true, true, false, false, true, false, false] rfl rfl (by kernel_rfl) (fun _ _ _ h => h) (Or.inl ⟨by rfl, ?_⟩) ?_ ?_
     rotate_left
     ·intro w'
      go_simp
      with_reducible rfl
     rotate_left
     ·simp only [Act.put, sAa, sBb, sCc, i64_w, i32_w]
      rfl
     refine pure_ (i := 8) (N := some 29) (v := ?_) (a' := ?_) #[true, true, true, true, true, true, true, true, true, false, true, false, false] rfl rfl (by kernel_rfl) (fun _ _ _ h => h) (Or.inl ⟨by rfl, ?_⟩) ?_ ?_
     rotate_left
     ·intro w'
      go_simp
      with_reducible rfl
     rotate_left
     ·simp only [Act.put, sAa, sBb, sCc, i64_w, i32_w]
      rfl
     refine pure_ (i := 9) (N := some 30) (v := ?_) (a' := ?_) #[true, true, true, true, true, true, true, true, true, true, true, false, false] rfl rfl (by kernel_rfl) (fun _ _ _ h => h) (Or.inl ⟨by rfl, ?_⟩) ?_ ?_
     rotate_left
     ·intro w'
      go_simp
      with_reducible rfl
     rotate_left
     ·simp only [Act.put, sAa, sBb, sCc, i64_w, i32_w]
      rfl
     exact norm_ (by simp only [putAll, Act.put, sAa, sBb, sCc]) (hCont wd.heap.size _ ⟨⟨(blk_cell HO3.out 0).trans rfl, (blk_cell HO3.out 1).trans rfl, (blk_cell HO3.out 2).trans rfl, (blk_cell HO3.out 3).trans rfl, (blk_cell HO3.out 4).trans rfl, (blk_cell HO3.out 5).trans rfl, (blk_cell HO3.out 6).trans rfl, (blk_cell HO3.out 7).trans rfl, (blk_cell HO3.out 8).trans rfl, (blk_cell HO3.out 9).trans rfl, (blk_cell HO3.out 10).trans rfl, (blk_cell HO3.out 11).trans rfl, (blk_cell HO3.out 12).trans rfl, (blk_cell HP3.out 1).trans rfl⟩, HO3.out, HP3.out, HZ3.out, HBd.out.size, HB3.out⟩)
   rintro s_ w5 ⟨hHeld, hO, hP, hZ, hS, hB⟩
   have HO5 := Aside0.mk hO
   have HP5 := Aside0.mk hP
   have HZ5 := Aside0.mk hZ
   have HS5 := Aside0.mk hS
   have HB5 := Aside0.mk hB
   clear hO hP hZ hS hB
   refine norm_ (a' := ?_) ?_ ?_
   rotate_left
   ·simp only [putAll, Act.put, sAa, sBb, sCc]
    rfl
   refine last_ (i := 11) (N := none) #[true, true, true, true, true, true, true, true, true, true, true, true, false] rfl rfl (by kernel_rfl) (by decide) (fun K hK => ?_)
   obtain ⟨z0, z1, z2, z3⟩ := cellsK4 HZ5.out
   have zf0 := blk_frozen HZ5.out 0
   have zf1 := blk_frozen HZ5.out 1
   have zf2 := blk_frozen HZ5.out 2
   have zf3 := blk_frozen HZ5.out 3
   refine skip_ (w1 := ?_) (by rfl) rfl ?_ ?_
   rotate_left
   ·go_simp
    rfl
   refine hK.out _ _ ?_
   clear hK K
   refine pure_ (i := 12) (N := some 11) (v := ?_) (a' := ?_) #[true, true, true, true, true, true, true, true, true, true, true, true, true] rfl rfl (by kernel_rfl) (fun _ _ _ h => h) (Or.inl ⟨by rfl, ?_⟩) ?_ ?_
   rotate_left
   ·intro w'
    go_simp
    with_reducible rfl
   rotate_left
   ·simp only [Act.put, sAa, sBb, sCc, i64_w, i32_w]
    rfl
   refine done_ (by kernel_rfl) ?_
   have HNx : Aside0 (bx ≠ s_ ∧ bp ≠ s_) := ⟨by
    refine ⟨?_, ?_⟩
    ·rintro rfl
     have h1 := HO5.out
     rw [HZ5.out] at h1
     injection h1 with h1
     injection h1 with _ h1 _
     exact absurd h1 (by decide)
    ·rintro rfl
     have h1 := HP5.out
     rw [HZ5.out] at h1
     injection h1 with h1
     injection h1 with _ h1 _
     exact absurd h1 (by decide)⟩
   have HK5 : Aside0 (∀ k, k ≠ s_ → ((((w5.setCell ⟨s_, 0, none⟩ (.int .i64 0)).setCell ⟨s_, 1, none⟩ (.int .i64 0)).setCell ⟨s_, 2, none⟩ (.int .i64 0)).setCell ⟨s_, 3, none⟩ (.int .i64 0)).heap[k]? = w5.heap[k]?) := ⟨fun k hk => (Below.heap_setCell _ _ _ k hk).trans ((Below.heap_setCell _ _ _ k hk).trans ((Below.heap_setCell _ _ _ k hk).trans (Below.heap_setCell _ _ _ k hk)))⟩
   have HB6 : Aside0 (Below w.heap.size w ((((w5.setCell ⟨s_, 0, none⟩ (.int .i64 0)).setCell ⟨s_, 1, none⟩ (.int .i64 0)).setCell ⟨s_, 2, none⟩ (.int .i64 0)).setCell ⟨s_, 3, none⟩ (.int .i64 0))) := ⟨(((HB5.out.setCell HS5.out _).setCell HS5.out _).setCell HS5.out _).setCell HS5.out _⟩
   clear z0 z1 z2 z3 zf0 zf1 zf2 zf3
   generalize ((((w5.setCell ⟨s_, 0, none⟩ (.int .i64 0)).setCell ⟨s_, 1, none⟩ (.int .i64 0)).setCell ⟨s_, 2, none⟩ (.int .i64 0)).setCell ⟨s_, 3, none⟩ (.int .i64 0)) = w6 at *
   have HO6 := Aside0.mk ((HK5.out bx HNx.out.1).trans HO5.out)
   have HP6 := Aside0.mk ((HK5.out bp HNx.out.2).trans HP5.out)
   clear HO5 HP5 HZ5 HS5 HB5 HK5 HNx
   go_upto_region 7 with fail
   have HBe := Aside0.mk (below_drew HB6.out)
   have HOe : Aside0 (w6.drew.heap[bx]? = some (.cells #[.slice (some ad0) P.length c0, .slice A1 L.length c1, .int .i64 a2, .int .i64 a3, .int .i64 a4, .int .i64 a5, .int .i64 a6, .int .i64 a7, .int .i64 a8, .int .i64 a9, .int .i64 a10, .int .i64 a11, .int .i64 a12] 25)) := ⟨HO6.out⟩
   have HPe : Aside0 (w6.drew.heap[bp]? = some (.cells #[.int .i64 n0, .int .i64 n1] 35)) := ⟨HP6.out⟩
   have hq0 := HS.out.part0
   have hq1 := HS.out.part1
   have hq0_ := eq_true hq0
   have hq1_ := eq_true hq1
   obtain ⟨ad', e0, z0, z1⟩ := at_T60 (Kd.C_below HR0.out HBe.out) part hq0 hq1
   have e0' := Option.some.inj e0
   subst e0'
   clear e0
   refine start_ (n := 14) (S := fun w' => w'.cell? ⟨bp, 1, none⟩ = some (.int .i64 n1) ∧ w'.cell? ⟨bx, 0, none⟩ = some (.slice (some ad0) P.length c0) ∧ w'.cell? (ad0.add (part.toNat * 2)) = some (.int .i64 (rd_T60 P part).f0)) (ds := []) #[false, false, false, false, false, false, false, false, false, false, false, false, false, false] (by kernel_rfl) rfl rfl ⟨(blk_cell HPe.out 1).trans rfl, (blk_cell HOe.out 0).trans rfl, z0⟩ (fun hHeld => ?_)
   generalize w6.drew = we at HBe HOe HPe z0 z1 hHeld ⊢
   refine pure_ (i := 0) (N := some 31) (v := ?_) (a' := ?_) #[true, false, false, false, false, false, false, false, false, false, false, false, false, false] rfl rfl (by kernel_rfl) (fun _ _ _ h => h) (Or.inl ⟨by rfl, ?_⟩) ?_ ?_
   rotate_left
   ·intro w'
    go_simp
    with_reducible rfl
   rotate_left
   ·simp only [Act.put, sAa, sBb, sCc, i64_w, i32_w]
    rfl
   refine pure_ (i := 1) (N := some 32) (v := ?_) (a' := ?_) #[true, true, false, false, false, false, false, false, false, false, false, false, false, false] rfl rfl (by kernel_rfl) (fun _ _ _ h => h) (Or.inl ⟨by rfl, ?_⟩) ?_ ?_
   rotate_left
   ·intro w'
    go_simp
    with_reducible rfl
   rotate_left
   ·simp only [Act.put, sAa, sBb, sCc, i64_w, i32_w]
    rfl
   refine pure_ (i := 3) (N := some 34) (v := ?_) (a' := ?_) #[true, true, false, true, false, false, false, false, false, false, false, false, false, false] rfl rfl (by kernel_rfl) (fun _ _ _ h => h) (Or.inl ⟨by rfl, ?_⟩) ?_ ?_
   rotate_left
   ·intro w'
    go_simp
    with_reducible rfl
   rotate_left
   ·simp only [Act.put, sAa, sBb, sCc, i64_w, i32_w]
    rfl
   refine pure_ (i := 5) (N := some 36) (v := ?_) (a' := ?_) #[true, true, false, true, false, true, false, false, false, false, false, false, false, false] rfl rfl (by kernel_rfl) (fun _ _ _ h => h) (Or.inl ⟨by rfl, ?_⟩) ?_ ?_
   rotate_left
   ·intro w'
    go_simp
    with_reducible rfl
   rotate_left
   ·simp only [Act.put, sAa, sBb, sCc, i64_w, i32_w]
    rfl
   refine take_ (i := 2) (N := some 33) (v := ?_) (a' := ?_) #[true, true, true, true, false, true, false, false, false, false, false, false, false, false] rfl rfl (by kernel_rfl) (fun _ _ _ h => h) (Or.inl ⟨by rfl, ?_⟩) hHeld ?_ ?_
   rotate_left
   ·rintro w' ⟨s0, s1, s2⟩
    go_simp
    with_reducible rfl
   rotate_left
   ·simp only [Act.put, sAa, sBb, sCc, i64_w, i32_w]
    rfl
   refine take_ (i := 4) (N := some 35) (v := ?_) (a' := ?_) #[true, true, true, true, true, true, false, false, false, false, false, false, false, false] rfl rfl (by kernel_rfl) (fun _ _ _ h => h) (Or.inl ⟨by rfl, ?_⟩) hHeld ?_ ?_
   rotate_left
   ·rintro w' ⟨s0, s1, s2⟩
    go_simp
    with_reducible rfl
   rotate_left
   ·simp only [Act.put, sAa, sBb, sCc, i64_w, i32_w]
    rfl
   refine pure_ (i := 6) (N := some 37) (v := ?_) (a' := ?_) #[true, true, true, true, true, true, true, false, false, false, false, false, false, false] rfl rfl (by kernel_rfl) (fun _ _ _ h => h) (Or.inl ⟨by rfl, ?_⟩) ?_ ?_
   rotate_left
   ·intro w'
    go_simp
    with_reducible rfl
   rotate_left
   ·simp only [Act.put, sAa, sBb, sCc, i64_w, i32_w]
    rfl
   refine pure_ (i := 7) (N := some 38) (v := ?_) (a' := ?_) #[true, true, true, true, true, true, true, true, false, false, false, false, false, false] rfl rfl (by kernel_rfl) (fun _ _ _ h => h) (Or.inl ⟨by rfl, ?_⟩) ?_ ?_
   rotate_left
   ·intro w'
    go_simp
    with_reducible rfl
   rotate_left
   ·simp only [Act.put, sAa, sBb, sCc, i64_w, i32_w]
    rfl
   refine take_ (i := 8) (N := some 39) (v := ?_) (a' := ?_) #[true, true, true, true, true, true, true, true, true, false, false, false, false, false] rfl rfl (by kernel_rfl) (fun _ _ _ h => h) (Or.inl ⟨by rfl, ?_⟩) hHeld ?_ ?_
   rotate_left
   ·rintro w' ⟨s0, s1, s2⟩
    go_simp
    with_reducible rfl
   rotate_left
   ·simp only [Act.put, sAa, sBb, sCc, i64_w, i32_w]
    rfl
   refine one_ (i := 9) (N := some 40) #[true, true, true, true, true, true, true, true, true, true, false, false, false, false] rfl rfl (by kernel_rfl) (by decide) (fun K hK => ?_)
   refine goes_ Tryd.func50 (by kernel_rfl) rfl #[.int .i64 n1, .int .i64 (rd_T60 P part).f0] (by rfl) rfl rfl (by simp only [List.map_toArray, List.map_cons, List.map_nil]; rfl) ?_
   with_reducible refine (is_yes n1 (rd_T60 P part).f0 _ HS.out.m0 HS.out.m1).mono ?_
   rintro e w7 ⟨rfl, hb⟩
   have HB7 := Aside0.mk (below_step HBe.out hb)
   have HO7 := Aside0.mk ((hb.block bx (blk_lt HOe.out)).trans HOe.out)
   have HP7 := Aside0.mk ((hb.block bp (blk_lt HPe.out)).trans HPe.out)
   have z7 := (hb.cell (block_lt_of_cell z0)).trans z0
   clear hb
   refine ⟨_, rfl, ?_⟩
   refine hK.out _ _ ⟨(blk_cell HP7.out 1).trans rfl, (blk_cell HO7.out 0).trans rfl, z7⟩ (fun hHeld => ?_)
   clear hK K
   refine norm_ (a' := ?_) ?_ ?_
   rotate_left
   ·show Act.put _ (some 40) _ = _
    simp only [Act.put, sAa, sBb, sCc, i64_w, i32_w]
    rfl
   refine pure_ (i := 10) (N := some 41) (v := ?_) (a' := ?_) #[true, true, true, true, true, true, true, true, true, true, true, false, false, false] rfl rfl (by kernel_rfl) (fun _ _ _ h => h) (Or.inl ⟨by rfl, ?_⟩) ?_ ?_
   rotate_left
   ·intro w'
    go_simp
    with_reducible rfl
   rotate_left
   ·simp only [Act.put, sAa, sBb, sCc, i64_w, i32_w]
    rfl
   refine pure_ (i := 11) (N := some 42) (v := ?_) (a' := ?_) #[true, true, true, true, true, true, true, true, true, true, true, true, false, false] rfl rfl (by kernel_rfl) (fun _ _ _ h => h) (Or.inl ⟨by rfl, ?_⟩) ?_ ?_
   rotate_left
   ·intro w'
    go_simp
    with_reducible rfl
   rotate_left
   ·simp only [Act.put, sAa, sBb, sCc, i64_w, i32_w]
    rfl
   refine pure_ (i := 12) (N := some 43) (v := ?_) (a' := ?_) #[true, true, true, true, true, true, true, true, true, true, true, true, true, false] rfl rfl (by kernel_rfl) (fun _ _ _ h => h) (Or.inl ⟨by rfl, ?_⟩) ?_ ?_
   rotate_left
   ·intro w'
    go_simp
    with_reducible rfl
   rotate_left
   ·simp only [Act.put, sAa, sBb, sCc, i64_w, i32_w]
    rfl
   refine pure_ (i := 13) (N := some 44) (v := ?_) (a' := ?_) #[true, true, true, true, true, true, true, true, true, true, true, true, true, true] rfl rfl (by kernel_rfl) (fun _ _ _ h => h) (Or.inl ⟨by rfl, ?_⟩) ?_ ?_
   rotate_left
   ·intro w'
    go_simp
    with_reducible rfl
   rotate_left
   ·simp only [Act.put, sAa, sBb, sCc, i64_w, i32_w]
    rfl
   refine done_ (by kernel_rfl) ?_
   clear z0 z1 z7
   go_wp2_with fail
   go_roundg k1
   case measure => have := HK.out; omega
   case rel => exact ⟨2, rfl, ⟨by have := HK.out; omega⟩, HB7, HO7, HP7⟩
  ·subst e
   go_wp2_with fail
   go_ret
   exact ⟨rfl, HB.out⟩
end Go.Proofs.YtkhlndhleiaokaaDoor.MHo
