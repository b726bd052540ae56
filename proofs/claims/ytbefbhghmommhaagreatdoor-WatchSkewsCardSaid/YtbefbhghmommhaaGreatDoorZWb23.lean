/- Texts of this claim, laid together by a program (wip/g/merge3.py): MWox100. -/
import Derived.Test.YtbefbhghmommhaaGreatDoorZWb3
import Derived.Test.YtbefbhghmommhaaGreatDoorZWb6
import Derived.Test.YtbefbhghmommhaaGreatDoorZWb22
namespace Go.Proofs.YtbefbhghmommhaaGreatDoor.MWo
open Go.RowKit Go.Proofs.YtbefbhghmommhaaGreatDoorW.PrintWords Go.Proofs.YtbefbhghmommhaaGreatDoorW.PrintLast Go.Proofs.YtbefbhghmommhaaGreatDoorW.PrintMore
attribute [local go_sem] mp_u32s mp_u32m mp_u8s mp_u8m max2_int min2_int max_two min_two max_three min_three max_four min_four
set_option linter.unusedVariables false
set_option linter.unusedSimpArgs false
def dr17_right.f (k : Nat) (l0_0 : List (S68)) (l0_1 : List (S71)) (a0_2 : Int) (a0_3 : Int) (a0_4 : Int) (a0_5 : Int) (a0_6 : Int) (a0_7 : Int) (a0_8 : Int) (a0_9 : Int) (a0_10 : Int) (a0_11 : Int) (a0_12 : Int) (a1_0 : Int) (a1_1 : Int) (a1_2 : Int) (a1_3 : Int) (a1_4 : Int) (l1_5 : List Int) (a1_6 : Int) (a1_7 : Int) : Option (Bool) := if a1_0 < 0 then (some false) else (if a1_0 > 2 then (some false) else (if a1_2 < (wrap64 (-a0_6)) then (some false) else (if a1_2 > a0_6 then (some false) else ((dr1_Time.f a1_3).bind fun t470 => (if t470 = true then (if a1_1 < 0 then (some false) else (if a1_1 > 60000 then (some false) else (if a1_4 ≥ 0 then (if a1_4 ≤ 1099511627776 then (if a1_6 ≥ 0 then (if a1_6 < 4096 then (if a1_7 ≥ 0 then (if a1_7 ≤ 1099511627776 then ((dr17_ages.f k l0_0 l0_1 a0_2 a0_3 a0_4 a0_5 a0_6 a0_7 a0_8 a0_9 a0_10 a0_11 a0_12 l1_5 (a1_0 == 2)).bind fun t471 => (some t471)) else (some false)) else (some false)) else (some false)) else (some false)) else (some false)) else (some false)))) else (some false))))))
set_option maxHeartbeats 8000000 in
set_option maxRecDepth 100000 in
theorem dr17_right.calls (k : Nat) (A0_0 : Option Addr) (c0_0 : Nat) (l0_0 : List (S68)) (A0_1 : Option Addr) (c0_1 : Nat) (l0_1 : List (S71)) (a0_2 : Int) (a0_3 : Int) (a0_4 : Int) (a0_5 : Int) (a0_6 : Int) (a0_7 : Int) (a0_8 : Int) (a0_9 : Int) (a0_10 : Int) (a0_11 : Int) (a0_12 : Int) (a1_0 : Int) (a1_1 : Int) (a1_2 : Int) (a1_3 : Int) (a1_4 : Int) (A1_5 : Option Addr) (c1_5 : Nat) (l1_5 : List Int) (a1_6 : Int) (a1_7 : Int) (r : Bool) (w : World) (hr0_0 : Kd.C k68 w A0_0 l0_0.length l0_0) (hc0_0 : l0_0.length ≤ c0_0) (hr0_1 : Kd.C k71 w A0_1 l0_1.length l0_1) (hc0_1 : l0_1.length ≤ c0_1) (hr1_5 : Kd.C (Kd.int .i64) w A1_5 l1_5.length l1_5) (hc1_5 : l1_5.length ≤ c1_5) (h : dr17_right.f k l0_0 l0_1 a0_2 a0_3 a0_4 a0_5 a0_6 a0_7 a0_8 a0_9 a0_10 a0_11 a0_12 a1_0 a1_1 a1_2 a1_3 a1_4 l1_5 a1_6 a1_7 = some r) :
  Calls Tryz.prog 45 #[.agg #[.slice A0_0 l0_0.length c0_0, .slice A0_1 l0_1.length c0_1, .int .i64 a0_2, .int .i64 a0_3, .int .i64 a0_4, .int .i64 a0_5, .int .i64 a0_6, .int .i64 a0_7, .int .i64 a0_8, .int .i64 a0_9, .int .i64 a0_10, .int .i64 a0_11, .int .i64 a0_12], .agg #[.int .i64 a1_0, .int .i64 a1_1, .int .i64 a1_2, .int .i64 a1_3, .int .i64 a1_4, .slice A1_5 l1_5.length c1_5, .int .i64 a1_6, .int .i64 a1_7]] w fun e w' => e = .returned (.bool r) ∧ Below w.heap.size w w' := by
 have hu25 := Tryz.underlying25
 have hu55 := Tryz.underlying55
 have HR0_0 := am hr0_0
 have HC0_0 := am hc0_0
 clear hr0_0 hc0_0
 have HR0_1 := am hr0_1
 have HC0_1 := am hc0_1
 clear hr0_1 hc0_1
 have HR1_5 := am hr1_5
 have HC1_5 := am hc1_5
 clear hr1_5 hc1_5
 have HB := am (Below.refl w.heap.size w)
 have H : (if a1_0 < 0 then (some false) else (if a1_0 > 2 then (some false) else (if a1_2 < (wrap64 (-a0_6)) then (some false) else (if a1_2 > a0_6 then (some false) else ((dr1_Time.f a1_3).bind fun t470 => (if t470 = true then (if a1_1 < 0 then (some false) else (if a1_1 > 60000 then (some false) else (if a1_4 ≥ 0 then (if a1_4 ≤ 1099511627776 then (if a1_6 ≥ 0 then (if a1_6 < 4096 then (if a1_7 ≥ 0 then (if a1_7 ≤ 1099511627776 then ((dr17_ages.f k l0_0 l0_1 a0_2 a0_3 a0_4 a0_5 a0_6 a0_7 a0_8 a0_9 a0_10 a0_11 a0_12 l1_5 (a1_0 == 2)).bind fun t471 => (some t471)) else (some false)) else (some false)) else (some false)) else (some false)) else (some false)) else (some false)))) else (some false))))))) = some r := h
 clear h
 by_cases c3 : a1_0 < 0
 case' pos =>
  rw [if_pos c3] at H
  have c3b0 : decide (a1_0 < 0) = true := decide_eq_true c3
  clear c3
  obtain rfl := Option.some.inj H
 rotate_left
 rw [if_neg c3] at H
 have c3b0 : decide (a1_0 < 0) = false := decide_eq_false c3
 clear c3
 by_cases c8 : a1_0 > 2
 case' pos =>
  rw [if_pos c8] at H
  have c8b0 : decide (2 < a1_0) = true := decide_eq_true c8
  clear c8
  obtain rfl := Option.some.inj H
 rotate_left
 rw [if_neg c8] at H
 have c8b0 : decide (2 < a1_0) = false := decide_eq_false c8
 clear c8
 by_cases c13 : a1_2 < (wrap64 (-a0_6))
 case' pos =>
  rw [if_pos c13] at H
  have c13b0 : decide (a1_2 < (wrap64 (-a0_6))) = true := decide_eq_true c13
  clear c13
  obtain rfl := Option.some.inj H
 rotate_left
 rw [if_neg c13] at H
 have c13b0 : decide (a1_2 < (wrap64 (-a0_6))) = false := decide_eq_false c13
 clear c13
 by_cases c19 : a1_2 > a0_6
 case' pos =>
  rw [if_pos c19] at H
  have c19b0 : decide (a0_6 < a1_2) = true := decide_eq_true c19
  clear c19
  obtain rfl := Option.some.inj H
 rotate_left
 rw [if_neg c19] at H
 have c19b0 : decide (a0_6 < a1_2) = false := decide_eq_false c19
 clear c19
 replace H := Option.bind_eq_some_iff.mp H
 obtain ⟨t470, A250, H⟩ := H
 replace H : (if t470 = true then (if a1_1 < 0 then (some false) else (if a1_1 > 60000 then (some false) else (if a1_4 ≥ 0 then (if a1_4 ≤ 1099511627776 then (if a1_6 ≥ 0 then (if a1_6 < 4096 then (if a1_7 ≥ 0 then (if a1_7 ≤ 1099511627776 then ((dr17_ages.f k l0_0 l0_1 a0_2 a0_3 a0_4 a0_5 a0_6 a0_7 a0_8 a0_9 a0_10 a0_11 a0_12 l1_5 (a1_0 == 2)).bind fun t471 => (some t471)) else (some false)) else (some false)) else (some false)) else (some false)) else (some false)) else (some false)))) else (some false)) = some r := H
 have A25 := am A250
 clear A250
 by_cases c26 : t470 = true
 case' neg =>
  replace c26 := Bool.eq_false_iff.mpr c26
  subst c26
  have H1 : (some false) = some r := by rw [if_neg (show ¬ (false = true) by decide)] at H; exact H
  clear H
  have H := H1
  clear H1
  obtain rfl := Option.some.inj H
 rotate_left
 subst c26
 have H1 : (if a1_1 < 0 then (some false) else (if a1_1 > 60000 then (some false) else (if a1_4 ≥ 0 then (if a1_4 ≤ 1099511627776 then (if a1_6 ≥ 0 then (if a1_6 < 4096 then (if a1_7 ≥ 0 then (if a1_7 ≤ 1099511627776 then ((dr17_ages.f k l0_0 l0_1 a0_2 a0_3 a0_4 a0_5 a0_6 a0_7 a0_8 a0_9 a0_10 a0_11 a0_12 l1_5 (a1_0 == 2)).bind fun t471 => (some t471)) else (some false)) else (some false)) else (some false)) else (some false)) else (some false)) else (some false)))) = some r := by rw [if_pos rfl] at H; exact H
 clear H
 have H := H1
 clear H1
 by_cases c27 : a1_1 < 0
 case' pos =>
  rw [if_pos c27] at H
  have c27b0 : decide (a1_1 < 0) = true := decide_eq_true c27
  clear c27
  obtain rfl := Option.some.inj H
 rotate_left
 rw [if_neg c27] at H
 have c27b0 : decide (a1_1 < 0) = false := decide_eq_false c27
 clear c27
 by_cases c33 : a1_1 > 60000
 case' pos =>
  rw [if_pos c33] at H
  have c33b0 : decide (60000 < a1_1) = true := decide_eq_true c33
  clear c33
  obtain rfl := Option.some.inj H
 rotate_left
 rw [if_neg c33] at H
 have c33b0 : decide (60000 < a1_1) = false := decide_eq_false c33
 clear c33
 by_cases c39 : a1_4 ≥ 0
 case' neg =>
  rw [if_neg c39] at H
  have c39b0 : decide (0 ≤ a1_4) = false := decide_eq_false c39
  clear c39
  obtain rfl := Option.some.inj H
 rotate_left
 rw [if_pos c39] at H
 have c39b0 : decide (0 ≤ a1_4) = true := decide_eq_true c39
 clear c39
 by_cases c40 : a1_4 ≤ 1099511627776
 case' neg =>
  rw [if_neg c40] at H
  have c40b0 : decide (a1_4 ≤ 1099511627776) = false := decide_eq_false c40
  clear c40
  obtain rfl := Option.some.inj H
 rotate_left
 rw [if_pos c40] at H
 have c40b0 : decide (a1_4 ≤ 1099511627776) = true := decide_eq_true c40
 clear c40
 by_cases c41 : a1_6 ≥ 0
 case' neg =>
  rw [if_neg c41] at H
  have c41b0 : decide (0 ≤ a1_6) = false := decide_eq_false c41
  clear c41
  obtain rfl := Option.some.inj H
 rotate_left
 rw [if_pos c41] at H
 have c41b0 : decide (0 ≤ a1_6) = true := decide_eq_true c41
 clear c41
 by_cases c42 : a1_6 < 4096
 case' neg =>
  rw [if_neg c42] at H
  have c42b0 : decide (a1_6 < 4096) = false := decide_eq_false c42
  clear c42
  obtain rfl := Option.some.inj H
 rotate_left
 rw [if_pos c42] at H
 have c42b0 : decide (a1_6 < 4096) = true := decide_eq_true c42
 clear c42
 by_cases c43 : a1_7 ≥ 0
 case' neg =>
  rw [if_neg c43] at H
  have c43b0 : decide (0 ≤ a1_7) = false := decide_eq_false c43
  clear c43
  obtain rfl := Option.some.inj H
 rotate_left
 rw [if_pos c43] at H
 have c43b0 : decide (0 ≤ a1_7) = true := decide_eq_true c43
 clear c43
 by_cases c44 : a1_7 ≤ 1099511627776
 case' neg =>
  rw [if_neg c44] at H
  have c44b0 : decide (a1_7 ≤ 1099511627776) = false := decide_eq_false c44
  clear c44
  obtain rfl := Option.some.inj H
 rotate_left
 rw [if_pos c44] at H
 have c44b0 : decide (a1_7 ≤ 1099511627776) = true := decide_eq_true c44
 clear c44
 replace H := Option.bind_eq_some_iff.mp H
 obtain ⟨t471, A450, H⟩ := H
 replace H : (some t471) = some r := H
 have A45 := am A450
 clear A450
 obtain rfl := Option.some.inj H
 ·go_enter Tryz.func45, Tryz.ntmps45
  go_wp2_with (first | ((with_reducible refine gate_dst (N := 2) rfl ?_); refine box_event ?hg (N := 2) ?hd (cs := #[.slice A0_0 l0_0.length c0_0, .slice A0_1 l0_1.length c0_1, .int .i64 a0_2, .int .i64 a0_3, .int .i64 a0_4, .int .i64 a0_5, .int .i64 a0_6, .int .i64 a0_7, .int .i64 a0_8, .int .i64 a0_9, .int .i64 a0_10, .int .i64 a0_11, .int .i64 a0_12]) (t := 25) ?hr ?_; (case hd => rfl); (case hg => rfl); (case hr => first | (go_simp; done) | (go_simp; rfl)); intro gb468 hg w46 hbox hb; have n0_ := am (below_step (by repeat (first | (with_reducible first | exact HB.out | apply below_alloc | apply pw_below_drewN | apply below_drew1) | exact HB.out)) hb); have n1_ := am (hbox); have n2_ := am ((by rw [hg]; exact (below_size (by repeat (first | (with_reducible first | exact HB.out | apply below_alloc | apply pw_below_drewN | apply below_drew1) | exact HB.out))) : w.heap.size ≤ gb468)); have n3_ := am ((by rw [hg]; exact (below_size (by repeat (first | (with_reducible first | exact HB.out | apply below_alloc | apply pw_below_drewN | apply below_drew1) | exact HB.out))) : w.heap.size ≤ gb468)); clear HB; have HB := n0_; have BK468 := n1_; have GW468 := n2_; have GE468 := n3_; clear n0_ n1_ n2_ n3_; clear hb hbox hg) | ((with_reducible refine gate_dst (N := 3) rfl ?_); refine box_event ?hg (N := 3) ?hd (cs := #[.int .i64 a1_0, .int .i64 a1_1, .int .i64 a1_2, .int .i64 a1_3, .int .i64 a1_4, .slice A1_5 l1_5.length c1_5, .int .i64 a1_6, .int .i64 a1_7]) (t := 55) ?hr ?_; (case hd => rfl); (case hg => rfl); (case hr => first | (go_simp; done) | (go_simp; rfl)); intro gb469 hg w47 hbox hb; have n0_ := am (blk_below (g := gb468) (o := .cells #[.slice A0_0 l0_0.length c0_0, .slice A0_1 l0_1.length c0_1, .int .i64 a0_2, .int .i64 a0_3, .int .i64 a0_4, .int .i64 a0_5, .int .i64 a0_6, .int .i64 a0_7, .int .i64 a0_8, .int .i64 a0_9, .int .i64 a0_10, .int .i64 a0_11, .int .i64 a0_12] 25 (0, 0)) (by (with_reducible repeat (first | refine blk_drewN ?_ _ | refine blk_drew ?_ | refine blk_alloc ?_ _)); exact BK468.out) hb); have n1_ := am (below_step (by repeat (first | (with_reducible first | exact HB.out | apply below_alloc | apply pw_below_drewN | apply below_drew1 | refine below_set ?_ GE468.out) | exact HB.out)) hb); have n2_ := am (hbox); have n3_ := am ((by rw [hg]; exact (below_size (by repeat (first | (with_reducible first | exact HB.out | apply below_alloc | apply pw_below_drewN | apply below_drew1 | refine below_set ?_ GE468.out) | exact HB.out))) : w.heap.size ≤ gb469)); have n4_ := am ((by rw [hg]; exact (below_size (by repeat (first | (with_reducible first | exact HB.out | apply below_alloc | apply pw_below_drewN | apply below_drew1 | refine below_set ?_ GE468.out) | exact HB.out))) : w.heap.size ≤ gb469)); have n5_ := am ((by rw [hg]; exact Nat.ne_of_lt (blk_lt (g := gb468) (o := .cells #[.slice A0_0 l0_0.length c0_0, .slice A0_1 l0_1.length c0_1, .int .i64 a0_2, .int .i64 a0_3, .int .i64 a0_4, .int .i64 a0_5, .int .i64 a0_6, .int .i64 a0_7, .int .i64 a0_8, .int .i64 a0_9, .int .i64 a0_10, .int .i64 a0_11, .int .i64 a0_12] 25 (0, 0)) (by (with_reducible repeat (first | refine blk_drewN ?_ _ | refine blk_drew ?_ | refine blk_alloc ?_ _)); exact BK468.out)) : gb468 ≠ gb469)); have n6_ := am ((by rw [hg]; exact Nat.ne_of_gt (blk_lt (g := gb468) (o := .cells #[.slice A0_0 l0_0.length c0_0, .slice A0_1 l0_1.length c0_1, .int .i64 a0_2, .int .i64 a0_3, .int .i64 a0_4, .int .i64 a0_5, .int .i64 a0_6, .int .i64 a0_7, .int .i64 a0_8, .int .i64 a0_9, .int .i64 a0_10, .int .i64 a0_11, .int .i64 a0_12] 25 (0, 0)) (by (with_reducible repeat (first | refine blk_drewN ?_ _ | refine blk_drew ?_ | refine blk_alloc ?_ _)); exact BK468.out)) : gb469 ≠ gb468)); clear BK468; clear HB; have BK468 := n0_; have HB := n1_; have BK469 := n2_; have GW469 := n3_; have GE469 := n4_; have NB468_469 := n5_; have NB469_468 := n6_; clear n0_ n1_ n2_ n3_ n4_ n5_ n6_; clear hb hbox hg; have hnb48 := NB469_468.out; have hnc48 := NB468_469.out; obtain ⟨hcz49_0, hcz49_1, hcz49_2, hcz49_3, hcz49_4, hcz49_5, hcz49_6, hcz49_7⟩ := cellsK8 BK469.out; obtain ⟨hfz49_0, hfz49_1, hfz49_2, hfz49_3, hfz49_4, hfz49_5, hfz49_6, hfz49_7⟩ := frozK8 BK469.out; obtain ⟨hcz50_0, hcz50_1, hcz50_2, hcz50_3, hcz50_4, hcz50_5, hcz50_6, hcz50_7, hcz50_8, hcz50_9, hcz50_10, hcz50_11, hcz50_12⟩ := cellsK13 BK468.out; obtain ⟨hfz50_0, hfz50_1, hfz50_2, hfz50_3, hfz50_4, hfz50_5, hfz50_6, hfz50_7, hfz50_8, hfz50_9, hfz50_10, hfz50_11, hfz50_12⟩ := frozK13 BK468.out) | (go_at_call 46; (with_reducible refine (dr1_Time.calls a1_3 true _ A25.out).mono ?_); rintro e w' ⟨rfl, ⟨nd, rfl⟩⟩) | (go_at_call 47; (with_reducible refine (dr17_ages.calls k _ _ l0_0 _ _ l0_1 a0_2 a0_3 a0_4 a0_5 a0_6 a0_7 a0_8 a0_9 a0_10 a0_11 a0_12 _ _ l1_5 (a1_0 == 2) t471 _ ?side1 ?side2 ?side3 ?side4 ?side5 ?side6 A45.out).mono ?_); (case side1 => repeat (first | exact (Kd.C_below HR0_0.out (by repeat (first | (with_reducible first | exact HB.out | apply below_alloc | apply pw_below_drewN | apply below_drew1 | refine below_set ?_ GE468.out | refine below_set ?_ GE469.out) | exact HB.out))) | (with_reducible refine Kd.C_alloc ?_ _) | (with_reducible refine Kd.C_drewN ?_ _) | (with_reducible refine Kd.C_drew ?_))); (case side2 => exact HC0_0.out); (case side3 => repeat (first | exact (Kd.C_below HR0_1.out (by repeat (first | (with_reducible first | exact HB.out | apply below_alloc | apply pw_below_drewN | apply below_drew1 | refine below_set ?_ GE468.out | refine below_set ?_ GE469.out) | exact HB.out))) | (with_reducible refine Kd.C_alloc ?_ _) | (with_reducible refine Kd.C_drewN ?_ _) | (with_reducible refine Kd.C_drew ?_))); (case side4 => exact HC0_1.out); (case side5 => repeat (first | exact (Kd.C_below HR1_5.out (by repeat (first | (with_reducible first | exact HB.out | apply below_alloc | apply pw_below_drewN | apply below_drew1 | refine below_set ?_ GE468.out | refine below_set ?_ GE469.out) | exact HB.out))) | (with_reducible refine Kd.C_alloc ?_ _) | (with_reducible refine Kd.C_drewN ?_ _) | (with_reducible refine Kd.C_drew ?_))); (case side6 => exact HC1_5.out); rintro e w51 ⟨rfl, hb⟩; have n0_ := am (blk_below (g := gb468) (o := .cells #[.slice A0_0 l0_0.length c0_0, .slice A0_1 l0_1.length c0_1, .int .i64 a0_2, .int .i64 a0_3, .int .i64 a0_4, .int .i64 a0_5, .int .i64 a0_6, .int .i64 a0_7, .int .i64 a0_8, .int .i64 a0_9, .int .i64 a0_10, .int .i64 a0_11, .int .i64 a0_12] 25 (0, 0)) (by (with_reducible repeat (first | refine blk_drewN ?_ _ | refine blk_drew ?_ | refine blk_alloc ?_ _)); exact BK468.out) hb); have n1_ := am (blk_below (g := gb469) (o := .cells #[.int .i64 a1_0, .int .i64 a1_1, .int .i64 a1_2, .int .i64 a1_3, .int .i64 a1_4, .slice A1_5 l1_5.length c1_5, .int .i64 a1_6, .int .i64 a1_7] 55 (0, 0)) (by (with_reducible repeat (first | refine blk_drewN ?_ _ | refine blk_drew ?_ | refine blk_alloc ?_ _)); exact BK469.out) hb); have n2_ := am (below_step (by repeat (first | (with_reducible first | exact HB.out | apply below_alloc | apply pw_below_drewN | apply below_drew1 | refine below_set ?_ GE468.out | refine below_set ?_ GE469.out) | exact HB.out)) hb); clear BK468; clear BK469; clear HB; have BK468 := n0_; have BK469 := n1_; have HB := n2_; clear n0_ n1_ n2_; (try clear hb); (try clear hb2); (try clear hk); (try clear hi)))
  go_ret
  exact ⟨by first | rfl | (simp [errW_none, errW_some] <;> rfl) | (simp [*, errW_none, errW_some] <;> rfl), by repeat (first | (with_reducible first | exact HB.out | apply below_alloc | apply pw_below_drewN | apply below_drew1 | refine below_set ?_ GE468.out | refine below_set ?_ GE469.out) | exact HB.out)⟩
 iterate 2
  focus
   go_enter Tryz.func45, Tryz.ntmps45
   go_wp2_with (first | ((with_reducible refine gate_dst (N := 2) rfl ?_); refine box_event ?hg (N := 2) ?hd (cs := #[.slice A0_0 l0_0.length c0_0, .slice A0_1 l0_1.length c0_1, .int .i64 a0_2, .int .i64 a0_3, .int .i64 a0_4, .int .i64 a0_5, .int .i64 a0_6, .int .i64 a0_7, .int .i64 a0_8, .int .i64 a0_9, .int .i64 a0_10, .int .i64 a0_11, .int .i64 a0_12]) (t := 25) ?hr ?_; (case hd => rfl); (case hg => rfl); (case hr => first | (go_simp; done) | (go_simp; rfl)); intro gb468 hg w4 hbox hb; have n0_ := am (below_step (by repeat (first | (with_reducible first | exact HB.out | apply below_alloc | apply pw_below_drewN | apply below_drew1) | exact HB.out)) hb); have n1_ := am (hbox); have n2_ := am ((by rw [hg]; exact (below_size (by repeat (first | (with_reducible first | exact HB.out | apply below_alloc | apply pw_below_drewN | apply below_drew1) | exact HB.out))) : w.heap.size ≤ gb468)); have n3_ := am ((by rw [hg]; exact (below_size (by repeat (first | (with_reducible first | exact HB.out | apply below_alloc | apply pw_below_drewN | apply below_drew1) | exact HB.out))) : w.heap.size ≤ gb468)); clear HB; have HB := n0_; have BK468 := n1_; have GW468 := n2_; have GE468 := n3_; clear n0_ n1_ n2_ n3_; clear hb hbox hg) | ((with_reducible refine gate_dst (N := 3) rfl ?_); refine box_event ?hg (N := 3) ?hd (cs := #[.int .i64 a1_0, .int .i64 a1_1, .int .i64 a1_2, .int .i64 a1_3, .int .i64 a1_4, .slice A1_5 l1_5.length c1_5, .int .i64 a1_6, .int .i64 a1_7]) (t := 55) ?hr ?_; (case hd => rfl); (case hg => rfl); (case hr => first | (go_simp; done) | (go_simp; rfl)); intro gb469 hg w5 hbox hb; have n0_ := am (blk_below (g := gb468) (o := .cells #[.slice A0_0 l0_0.length c0_0, .slice A0_1 l0_1.length c0_1, .int .i64 a0_2, .int .i64 a0_3, .int .i64 a0_4, .int .i64 a0_5, .int .i64 a0_6, .int .i64 a0_7, .int .i64 a0_8, .int .i64 a0_9, .int .i64 a0_10, .int .i64 a0_11, .int .i64 a0_12] 25 (0, 0)) (by (with_reducible repeat (first | refine blk_drewN ?_ _ | refine blk_drew ?_ | refine blk_alloc ?_ _)); exact BK468.out) hb); have n1_ := am (below_step (by repeat (first | (with_reducible first | exact HB.out | apply below_alloc | apply pw_below_drewN | apply below_drew1 | refine below_set ?_ GE468.out) | exact HB.out)) hb); have n2_ := am (hbox); have n3_ := am ((by rw [hg]; exact (below_size (by repeat (first | (with_reducible first | exact HB.out | apply below_alloc | apply pw_below_drewN | apply below_drew1 | refine below_set ?_ GE468.out) | exact HB.out))) : w.heap.size ≤ gb469)); have n4_ := am ((by rw [hg]; exact (below_size (by repeat (first | (with_reducible first | exact HB.out | apply below_alloc | apply pw_below_drewN | apply below_drew1 | refine below_set ?_ GE468.out) | exact HB.out))) : w.heap.size ≤ gb469)); have n5_ := am ((by rw [hg]; exact Nat.ne_of_lt (blk_lt (g := gb468) (o := .cells #[.slice A0_0 l0_0.length c0_0, .slice A0_1 l0_1.length c0_1, .int .i64 a0_2, .int .i64 a0_3, .int .i64 a0_4, .int .i64 a0_5, .int .i64 a0_6, .int .i64 a0_7, .int .i64 a0_8, .int .i64 a0_9, .int .i64 a0_10, .int .i64 a0_11, .int .i64 a0_12] 25 (0, 0)) (by (with_reducible repeat (first | refine blk_drewN ?_ _ | refine blk_drew ?_ | refine blk_alloc ?_ _)); exact BK468.out)) : gb468 ≠ gb469)); have n6_ := am ((by rw [hg]; exact Nat.ne_of_gt (blk_lt (g := gb468) (o := .cells #[.slice A0_0 l0_0.length c0_0, .slice A0_1 l0_1.length c0_1, .int .i64 a0_2, .int .i64 a0_3, .int .i64 a0_4, .int .i64 a0_5, .int .i64 a0_6, .int .i64 a0_7, .int .i64 a0_8, .int .i64 a0_9, .int .i64 a0_10, .int .i64 a0_11, .int .i64 a0_12] 25 (0, 0)) (by (with_reducible repeat (first | refine blk_drewN ?_ _ | refine blk_drew ?_ | refine blk_alloc ?_ _)); exact BK468.out)) : gb469 ≠ gb468)); clear BK468; clear HB; have BK468 := n0_; have HB := n1_; have BK469 := n2_; have GW469 := n3_; have GE469 := n4_; have NB468_469 := n5_; have NB469_468 := n6_; clear n0_ n1_ n2_ n3_ n4_ n5_ n6_; clear hb hbox hg; have hnb6 := NB469_468.out; have hnc6 := NB468_469.out; obtain ⟨hcz7_0, hcz7_1, hcz7_2, hcz7_3, hcz7_4, hcz7_5, hcz7_6, hcz7_7⟩ := cellsK8 BK469.out; obtain ⟨hfz7_0, hfz7_1, hfz7_2, hfz7_3, hfz7_4, hfz7_5, hfz7_6, hfz7_7⟩ := frozK8 BK469.out))
   go_ret
   exact ⟨by first | rfl | (simp [errW_none, errW_some] <;> rfl) | (simp [*, errW_none, errW_some] <;> rfl), by repeat (first | (with_reducible first | exact HB.out | apply below_alloc | apply pw_below_drewN | apply below_drew1 | refine below_set ?_ GE468.out | refine below_set ?_ GE469.out) | exact HB.out)⟩
 iterate 2
  focus
   go_enter Tryz.func45, Tryz.ntmps45
   go_wp2_with (first | ((with_reducible refine gate_dst (N := 2) rfl ?_); refine box_event ?hg (N := 2) ?hd (cs := #[.slice A0_0 l0_0.length c0_0, .slice A0_1 l0_1.length c0_1, .int .i64 a0_2, .int .i64 a0_3, .int .i64 a0_4, .int .i64 a0_5, .int .i64 a0_6, .int .i64 a0_7, .int .i64 a0_8, .int .i64 a0_9, .int .i64 a0_10, .int .i64 a0_11, .int .i64 a0_12]) (t := 25) ?hr ?_; (case hd => rfl); (case hg => rfl); (case hr => first | (go_simp; done) | (go_simp; rfl)); intro gb468 hg w14 hbox hb; have n0_ := am (below_step (by repeat (first | (with_reducible first | exact HB.out | apply below_alloc | apply pw_below_drewN | apply below_drew1) | exact HB.out)) hb); have n1_ := am (hbox); have n2_ := am ((by rw [hg]; exact (below_size (by repeat (first | (with_reducible first | exact HB.out | apply below_alloc | apply pw_below_drewN | apply below_drew1) | exact HB.out))) : w.heap.size ≤ gb468)); have n3_ := am ((by rw [hg]; exact (below_size (by repeat (first | (with_reducible first | exact HB.out | apply below_alloc | apply pw_below_drewN | apply below_drew1) | exact HB.out))) : w.heap.size ≤ gb468)); clear HB; have HB := n0_; have BK468 := n1_; have GW468 := n2_; have GE468 := n3_; clear n0_ n1_ n2_ n3_; clear hb hbox hg) | ((with_reducible refine gate_dst (N := 3) rfl ?_); refine box_event ?hg (N := 3) ?hd (cs := #[.int .i64 a1_0, .int .i64 a1_1, .int .i64 a1_2, .int .i64 a1_3, .int .i64 a1_4, .slice A1_5 l1_5.length c1_5, .int .i64 a1_6, .int .i64 a1_7]) (t := 55) ?hr ?_; (case hd => rfl); (case hg => rfl); (case hr => first | (go_simp; done) | (go_simp; rfl)); intro gb469 hg w15 hbox hb; have n0_ := am (blk_below (g := gb468) (o := .cells #[.slice A0_0 l0_0.length c0_0, .slice A0_1 l0_1.length c0_1, .int .i64 a0_2, .int .i64 a0_3, .int .i64 a0_4, .int .i64 a0_5, .int .i64 a0_6, .int .i64 a0_7, .int .i64 a0_8, .int .i64 a0_9, .int .i64 a0_10, .int .i64 a0_11, .int .i64 a0_12] 25 (0, 0)) (by (with_reducible repeat (first | refine blk_drewN ?_ _ | refine blk_drew ?_ | refine blk_alloc ?_ _)); exact BK468.out) hb); have n1_ := am (below_step (by repeat (first | (with_reducible first | exact HB.out | apply below_alloc | apply pw_below_drewN | apply below_drew1 | refine below_set ?_ GE468.out) | exact HB.out)) hb); have n2_ := am (hbox); have n3_ := am ((by rw [hg]; exact (below_size (by repeat (first | (with_reducible first | exact HB.out | apply below_alloc | apply pw_below_drewN | apply below_drew1 | refine below_set ?_ GE468.out) | exact HB.out))) : w.heap.size ≤ gb469)); have n4_ := am ((by rw [hg]; exact (below_size (by repeat (first | (with_reducible first | exact HB.out | apply below_alloc | apply pw_below_drewN | apply below_drew1 | refine below_set ?_ GE468.out) | exact HB.out))) : w.heap.size ≤ gb469)); have n5_ := am ((by rw [hg]; exact Nat.ne_of_lt (blk_lt (g := gb468) (o := .cells #[.slice A0_0 l0_0.length c0_0, .slice A0_1 l0_1.length c0_1, .int .i64 a0_2, .int .i64 a0_3, .int .i64 a0_4, .int .i64 a0_5, .int .i64 a0_6, .int .i64 a0_7, .int .i64 a0_8, .int .i64 a0_9, .int .i64 a0_10, .int .i64 a0_11, .int .i64 a0_12] 25 (0, 0)) (by (with_reducible repeat (first | refine blk_drewN ?_ _ | refine blk_drew ?_ | refine blk_alloc ?_ _)); exact BK468.out)) : gb468 ≠ gb469)); have n6_ := am ((by rw [hg]; exact Nat.ne_of_gt (blk_lt (g := gb468) (o := .cells #[.slice A0_0 l0_0.length c0_0, .slice A0_1 l0_1.length c0_1, .int .i64 a0_2, .int .i64 a0_3, .int .i64 a0_4, .int .i64 a0_5, .int .i64 a0_6, .int .i64 a0_7, .int .i64 a0_8, .int .i64 a0_9, .int .i64 a0_10, .int .i64 a0_11, .int .i64 a0_12] 25 (0, 0)) (by (with_reducible repeat (first | refine blk_drewN ?_ _ | refine blk_drew ?_ | refine blk_alloc ?_ _)); exact BK468.out)) : gb469 ≠ gb468)); clear BK468; clear HB; have BK468 := n0_; have HB := n1_; have BK469 := n2_; have GW469 := n3_; have GE469 := n4_; have NB468_469 := n5_; have NB469_468 := n6_; clear n0_ n1_ n2_ n3_ n4_ n5_ n6_; clear hb hbox hg; have hnb16 := NB469_468.out; have hnc16 := NB468_469.out; obtain ⟨hcz17_0, hcz17_1, hcz17_2, hcz17_3, hcz17_4, hcz17_5, hcz17_6, hcz17_7⟩ := cellsK8 BK469.out; obtain ⟨hfz17_0, hfz17_1, hfz17_2, hfz17_3, hfz17_4, hfz17_5, hfz17_6, hfz17_7⟩ := frozK8 BK469.out; obtain ⟨hcz18_0, hcz18_1, hcz18_2, hcz18_3, hcz18_4, hcz18_5, hcz18_6, hcz18_7, hcz18_8, hcz18_9, hcz18_10, hcz18_11, hcz18_12⟩ := cellsK13 BK468.out; obtain ⟨hfz18_0, hfz18_1, hfz18_2, hfz18_3, hfz18_4, hfz18_5, hfz18_6, hfz18_7, hfz18_8, hfz18_9, hfz18_10, hfz18_11, hfz18_12⟩ := frozK13 BK468.out))
   go_ret
   exact ⟨by first | rfl | (simp [errW_none, errW_some] <;> rfl) | (simp [*, errW_none, errW_some] <;> rfl), by repeat (first | (with_reducible first | exact HB.out | apply below_alloc | apply pw_below_drewN | apply below_drew1 | refine below_set ?_ GE468.out | refine below_set ?_ GE469.out) | exact HB.out)⟩
 ·go_enter Tryz.func45, Tryz.ntmps45
  go_wp2_with (first | ((with_reducible refine gate_dst (N := 2) rfl ?_); refine box_event ?hg (N := 2) ?hd (cs := #[.slice A0_0 l0_0.length c0_0, .slice A0_1 l0_1.length c0_1, .int .i64 a0_2, .int .i64 a0_3, .int .i64 a0_4, .int .i64 a0_5, .int .i64 a0_6, .int .i64 a0_7, .int .i64 a0_8, .int .i64 a0_9, .int .i64 a0_10, .int .i64 a0_11, .int .i64 a0_12]) (t := 25) ?hr ?_; (case hd => rfl); (case hg => rfl); (case hr => first | (go_simp; done) | (go_simp; rfl)); intro gb468 hg w82 hbox hb; have n0_ := am (below_step (by repeat (first | (with_reducible first | exact HB.out | apply below_alloc | apply pw_below_drewN | apply below_drew1) | exact HB.out)) hb); have n1_ := am (hbox); have n2_ := am ((by rw [hg]; exact (below_size (by repeat (first | (with_reducible first | exact HB.out | apply below_alloc | apply pw_below_drewN | apply below_drew1) | exact HB.out))) : w.heap.size ≤ gb468)); have n3_ := am ((by rw [hg]; exact (below_size (by repeat (first | (with_reducible first | exact HB.out | apply below_alloc | apply pw_below_drewN | apply below_drew1) | exact HB.out))) : w.heap.size ≤ gb468)); clear HB; have HB := n0_; have BK468 := n1_; have GW468 := n2_; have GE468 := n3_; clear n0_ n1_ n2_ n3_; clear hb hbox hg) | ((with_reducible refine gate_dst (N := 3) rfl ?_); refine box_event ?hg (N := 3) ?hd (cs := #[.int .i64 a1_0, .int .i64 a1_1, .int .i64 a1_2, .int .i64 a1_3, .int .i64 a1_4, .slice A1_5 l1_5.length c1_5, .int .i64 a1_6, .int .i64 a1_7]) (t := 55) ?hr ?_; (case hd => rfl); (case hg => rfl); (case hr => first | (go_simp; done) | (go_simp; rfl)); intro gb469 hg w83 hbox hb; have n0_ := am (blk_below (g := gb468) (o := .cells #[.slice A0_0 l0_0.length c0_0, .slice A0_1 l0_1.length c0_1, .int .i64 a0_2, .int .i64 a0_3, .int .i64 a0_4, .int .i64 a0_5, .int .i64 a0_6, .int .i64 a0_7, .int .i64 a0_8, .int .i64 a0_9, .int .i64 a0_10, .int .i64 a0_11, .int .i64 a0_12] 25 (0, 0)) (by (with_reducible repeat (first | refine blk_drewN ?_ _ | refine blk_drew ?_ | refine blk_alloc ?_ _)); exact BK468.out) hb); have n1_ := am (below_step (by repeat (first | (with_reducible first | exact HB.out | apply below_alloc | apply pw_below_drewN | apply below_drew1 | refine below_set ?_ GE468.out) | exact HB.out)) hb); have n2_ := am (hbox); have n3_ := am ((by rw [hg]; exact (below_size (by repeat (first | (with_reducible first | exact HB.out | apply below_alloc | apply pw_below_drewN | apply below_drew1 | refine below_set ?_ GE468.out) | exact HB.out))) : w.heap.size ≤ gb469)); have n4_ := am ((by rw [hg]; exact (below_size (by repeat (first | (with_reducible first | exact HB.out | apply below_alloc | apply pw_below_drewN | apply below_drew1 | refine below_set ?_ GE468.out) | exact HB.out))) : w.heap.size ≤ gb469)); have n5_ := am ((by rw [hg]; exact Nat.ne_of_lt (blk_lt (g := gb468) (o := .cells #[.slice A0_0 l0_0.length c0_0, .slice A0_1 l0_1.length c0_1, .int .i64 a0_2, .int .i64 a0_3, .int .i64 a0_4, .int .i64 a0_5, .int .i64 a0_6, .int .i64 a0_7, .int .i64 a0_8, .int .i64 a0_9, .int .i64 a0_10, .int .i64 a0_11, .int .i64 a0_12] 25 (0, 0)) (by (with_reducible repeat (first | refine blk_drewN ?_ _ | refine blk_drew ?_ | refine blk_alloc ?_ _)); exact BK468.out)) : gb468 ≠ gb469)); have n6_ := am ((by rw [hg]; exact Nat.ne_of_gt (blk_lt (g := gb468) (o := .cells #[.slice A0_0 l0_0.length c0_0, .slice A0_1 l0_1.length c0_1, .int .i64 a0_2, .int .i64 a0_3, .int .i64 a0_4, .int .i64 a0_5, .int .i64 a0_6, .int .i64 a0_7, .int .i64 a0_8, .int .i64 a0_9, .int .i64 a0_10, .int .i64 a0_11, .int .i64 a0_12] 25 (0, 0)) (by (with_reducible repeat (first | refine blk_drewN ?_ _ | refine blk_drew ?_ | refine blk_alloc ?_ _)); exact BK468.out)) : gb469 ≠ gb468)); clear BK468; clear HB; have BK468 := n0_; have HB := n1_; have BK469 := n2_; have GW469 := n3_; have GE469 := n4_; have NB468_469 := n5_; have NB469_468 := n6_; clear n0_ n1_ n2_ n3_ n4_ n5_ n6_; clear hb hbox hg; have hnb84 := NB469_468.out; have hnc84 := NB468_469.out; obtain ⟨hcz85_0, hcz85_1, hcz85_2, hcz85_3, hcz85_4, hcz85_5, hcz85_6, hcz85_7⟩ := cellsK8 BK469.out; obtain ⟨hfz85_0, hfz85_1, hfz85_2, hfz85_3, hfz85_4, hfz85_5, hfz85_6, hfz85_7⟩ := frozK8 BK469.out; obtain ⟨hcz86_0, hcz86_1, hcz86_2, hcz86_3, hcz86_4, hcz86_5, hcz86_6, hcz86_7, hcz86_8, hcz86_9, hcz86_10, hcz86_11, hcz86_12⟩ := cellsK13 BK468.out; obtain ⟨hfz86_0, hfz86_1, hfz86_2, hfz86_3, hfz86_4, hfz86_5, hfz86_6, hfz86_7, hfz86_8, hfz86_9, hfz86_10, hfz86_11, hfz86_12⟩ := frozK13 BK468.out) | (go_at_call 46; (with_reducible refine (dr1_Time.calls a1_3 false _ A25.out).mono ?_); rintro e w' ⟨rfl, ⟨nd, rfl⟩⟩))
  go_ret
  exact ⟨by first | rfl | (simp [errW_none, errW_some] <;> rfl) | (simp [*, errW_none, errW_some] <;> rfl), by repeat (first | (with_reducible first | exact HB.out | apply below_alloc | apply pw_below_drewN | apply below_drew1 | refine below_set ?_ GE468.out | refine below_set ?_ GE469.out) | exact HB.out)⟩
 iterate 8
  focus
   go_enter Tryz.func45, Tryz.ntmps45
   go_wp2_with (first | ((with_reducible refine gate_dst (N := 2) rfl ?_); refine box_event ?hg (N := 2) ?hd (cs := #[.slice A0_0 l0_0.length c0_0, .slice A0_1 l0_1.length c0_1, .int .i64 a0_2, .int .i64 a0_3, .int .i64 a0_4, .int .i64 a0_5, .int .i64 a0_6, .int .i64 a0_7, .int .i64 a0_8, .int .i64 a0_9, .int .i64 a0_10, .int .i64 a0_11, .int .i64 a0_12]) (t := 25) ?hr ?_; (case hd => rfl); (case hg => rfl); (case hr => first | (go_simp; done) | (go_simp; rfl)); intro gb468 hg w28 hbox hb; have n0_ := am (below_step (by repeat (first | (with_reducible first | exact HB.out | apply below_alloc | apply pw_below_drewN | apply below_drew1) | exact HB.out)) hb); have n1_ := am (hbox); have n2_ := am ((by rw [hg]; exact (below_size (by repeat (first | (with_reducible first | exact HB.out | apply below_alloc | apply pw_below_drewN | apply below_drew1) | exact HB.out))) : w.heap.size ≤ gb468)); have n3_ := am ((by rw [hg]; exact (below_size (by repeat (first | (with_reducible first | exact HB.out | apply below_alloc | apply pw_below_drewN | apply below_drew1) | exact HB.out))) : w.heap.size ≤ gb468)); clear HB; have HB := n0_; have BK468 := n1_; have GW468 := n2_; have GE468 := n3_; clear n0_ n1_ n2_ n3_; clear hb hbox hg) | ((with_reducible refine gate_dst (N := 3) rfl ?_); refine box_event ?hg (N := 3) ?hd (cs := #[.int .i64 a1_0, .int .i64 a1_1, .int .i64 a1_2, .int .i64 a1_3, .int .i64 a1_4, .slice A1_5 l1_5.length c1_5, .int .i64 a1_6, .int .i64 a1_7]) (t := 55) ?hr ?_; (case hd => rfl); (case hg => rfl); (case hr => first | (go_simp; done) | (go_simp; rfl)); intro gb469 hg w29 hbox hb; have n0_ := am (blk_below (g := gb468) (o := .cells #[.slice A0_0 l0_0.length c0_0, .slice A0_1 l0_1.length c0_1, .int .i64 a0_2, .int .i64 a0_3, .int .i64 a0_4, .int .i64 a0_5, .int .i64 a0_6, .int .i64 a0_7, .int .i64 a0_8, .int .i64 a0_9, .int .i64 a0_10, .int .i64 a0_11, .int .i64 a0_12] 25 (0, 0)) (by (with_reducible repeat (first | refine blk_drewN ?_ _ | refine blk_drew ?_ | refine blk_alloc ?_ _)); exact BK468.out) hb); have n1_ := am (below_step (by repeat (first | (with_reducible first | exact HB.out | apply below_alloc | apply pw_below_drewN | apply below_drew1 | refine below_set ?_ GE468.out) | exact HB.out)) hb); have n2_ := am (hbox); have n3_ := am ((by rw [hg]; exact (below_size (by repeat (first | (with_reducible first | exact HB.out | apply below_alloc | apply pw_below_drewN | apply below_drew1 | refine below_set ?_ GE468.out) | exact HB.out))) : w.heap.size ≤ gb469)); have n4_ := am ((by rw [hg]; exact (below_size (by repeat (first | (with_reducible first | exact HB.out | apply below_alloc | apply pw_below_drewN | apply below_drew1 | refine below_set ?_ GE468.out) | exact HB.out))) : w.heap.size ≤ gb469)); have n5_ := am ((by rw [hg]; exact Nat.ne_of_lt (blk_lt (g := gb468) (o := .cells #[.slice A0_0 l0_0.length c0_0, .slice A0_1 l0_1.length c0_1, .int .i64 a0_2, .int .i64 a0_3, .int .i64 a0_4, .int .i64 a0_5, .int .i64 a0_6, .int .i64 a0_7, .int .i64 a0_8, .int .i64 a0_9, .int .i64 a0_10, .int .i64 a0_11, .int .i64 a0_12] 25 (0, 0)) (by (with_reducible repeat (first | refine blk_drewN ?_ _ | refine blk_drew ?_ | refine blk_alloc ?_ _)); exact BK468.out)) : gb468 ≠ gb469)); have n6_ := am ((by rw [hg]; exact Nat.ne_of_gt (blk_lt (g := gb468) (o := .cells #[.slice A0_0 l0_0.length c0_0, .slice A0_1 l0_1.length c0_1, .int .i64 a0_2, .int .i64 a0_3, .int .i64 a0_4, .int .i64 a0_5, .int .i64 a0_6, .int .i64 a0_7, .int .i64 a0_8, .int .i64 a0_9, .int .i64 a0_10, .int .i64 a0_11, .int .i64 a0_12] 25 (0, 0)) (by (with_reducible repeat (first | refine blk_drewN ?_ _ | refine blk_drew ?_ | refine blk_alloc ?_ _)); exact BK468.out)) : gb469 ≠ gb468)); clear BK468; clear HB; have BK468 := n0_; have HB := n1_; have BK469 := n2_; have GW469 := n3_; have GE469 := n4_; have NB468_469 := n5_; have NB469_468 := n6_; clear n0_ n1_ n2_ n3_ n4_ n5_ n6_; clear hb hbox hg; have hnb30 := NB469_468.out; have hnc30 := NB468_469.out; obtain ⟨hcz31_0, hcz31_1, hcz31_2, hcz31_3, hcz31_4, hcz31_5, hcz31_6, hcz31_7⟩ := cellsK8 BK469.out; obtain ⟨hfz31_0, hfz31_1, hfz31_2, hfz31_3, hfz31_4, hfz31_5, hfz31_6, hfz31_7⟩ := frozK8 BK469.out; obtain ⟨hcz32_0, hcz32_1, hcz32_2, hcz32_3, hcz32_4, hcz32_5, hcz32_6, hcz32_7, hcz32_8, hcz32_9, hcz32_10, hcz32_11, hcz32_12⟩ := cellsK13 BK468.out; obtain ⟨hfz32_0, hfz32_1, hfz32_2, hfz32_3, hfz32_4, hfz32_5, hfz32_6, hfz32_7, hfz32_8, hfz32_9, hfz32_10, hfz32_11, hfz32_12⟩ := frozK13 BK468.out) | (go_at_call 46; (with_reducible refine (dr1_Time.calls a1_3 true _ A25.out).mono ?_); rintro e w' ⟨rfl, ⟨nd, rfl⟩⟩))
   go_ret
   exact ⟨by first | rfl | (simp [errW_none, errW_some] <;> rfl) | (simp [*, errW_none, errW_some] <;> rfl), by repeat (first | (with_reducible first | exact HB.out | apply below_alloc | apply pw_below_drewN | apply below_drew1 | refine below_set ?_ GE468.out | refine below_set ?_ GE469.out) | exact HB.out)⟩
end Go.Proofs.YtbefbhghmommhaaGreatDoor.MWo
