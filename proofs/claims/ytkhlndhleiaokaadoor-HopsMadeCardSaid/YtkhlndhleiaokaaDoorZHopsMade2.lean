/- Texts that HopsMade leans on, laid together by a program (wip/d/merge.py): MHox5, MHox11, MHox8, Ha, Hb, Hc, MHox15, Hd. -/
import Derived.Test.YtkhlndhleiaokaaDoorZHopsMade1
namespace Go.Proofs.YtkhlndhleiaokaaDoor.MHo
open Go.RowKit Go.Proofs.YtkhlndhleiaokaaDoorW.PrintWords Go.Proofs.YtkhlndhleiaokaaDoorW.PrintLast Go.Proofs.YtkhlndhleiaokaaDoorW.PrintMore
attribute [local go_sem] mp_u32s mp_u32m mp_u8s mp_u8m max2_int min2_int max_two min_two max_three min_three max_four min_four
set_option linter.unusedVariables false
set_option linter.unusedSimpArgs false
mutual
def plan_Dists.l0 : Nat → List Int → Int → Bool → List (S60) → List (S37) → Int → Int → Int → Int → Int → Int → Int → Int → Int → Int → Int → Option (List Int)
 | 0, _, _, _, _, _, _, _, _, _, _, _, _, _, _, _, _ => none
 | k + 1, x5, x6, x7, x104000, x104001, x104002, x104003, x104004, x104005, x104006, x104007, x104008, x104009, x104010, x104011, x104012 => if x7 = true then (plan_Dists.l1 k x5 x6 false x104001 (x104001.length : Int) 0 x104000 x104001 x104002 x104003 x104004 x104005 x104006 x104007 x104008 x104009 x104010 x104011 x104012) else (some x5)
def plan_Dists.l1 : Nat → List Int → Int → Bool → List (S37) → Int → Int → List (S60) → List (S37) → Int → Int → Int → Int → Int → Int → Int → Int → Int → Int → Int → Option (List Int)
 | 0, _, _, _, _, _, _, _, _, _, _, _, _, _, _, _, _, _, _, _ => none
 | k + 1, x5, x6, x7, x24, x25, x26, x104000, x104001, x104002, x104003, x104004, x104005, x104006, x104007, x104008, x104009, x104010, x104011, x104012 => if x26 < x25 then (if 0 ≤ x26 then (if x26 < (x24.length : Int) then ((some (([(⟨(rd_T37 x24 x26).f0, (rd_T37 x24 x26).f1⟩ : S35), (⟨(rd_T37 x24 x26).f1, (rd_T37 x24 x26).f0⟩ : S35)] : List (S35)) : List (S35))).bind fun y113 => (plan_Dists.l2 k x5 x6 x7 x24 x25 x26 y113 (y113.length : Int) 0 x104000 x104001 x104002 x104003 x104004 x104005 x104006 x104007 x104008 x104009 x104010 x104011 x104012)) else (none)) else (none)) else (plan_Dists.l0 k x5 (wrap64 (x6 + 1)) x7 x104000 x104001 x104002 x104003 x104004 x104005 x104006 x104007 x104008 x104009 x104010 x104011 x104012)
def plan_Dists.l2 : Nat → List Int → Int → Bool → List (S37) → Int → Int → List (S35) → Int → Int → List (S60) → List (S37) → Int → Int → Int → Int → Int → Int → Int → Int → Int → Int → Int → Option (List Int)
 | 0, _, _, _, _, _, _, _, _, _, _, _, _, _, _, _, _, _, _, _, _, _, _ => none
 | k + 1, x5, x6, x7, x24, x25, x26, x40, x41, x42, x104000, x104001, x104002, x104003, x104004, x104005, x104006, x104007, x104008, x104009, x104010, x104011, x104012 => if x42 < x41 then (if 0 ≤ x42 then (if x42 < (x40.length : Int) then (if 0 ≤ ((rd_T35 x40 x42).f0) then (if ((rd_T35 x40 x42).f0) < (x5.length : Int) then (if (rd x5 ((rd_T35 x40 x42).f0)) = x6 then (if 0 ≤ ((rd_T35 x40 x42).f1) then (if ((rd_T35 x40 x42).f1) < (x5.length : Int) then (if (rd x5 ((rd_T35 x40 x42).f1)) < 0 then (plan_Dists.l2 k (x5.set (((rd_T35 x40 x42).f1) : Int).toNat (wrap64 (x6 + 1))) x6 true x24 x25 x26 x40 x41 (wrap64 (x42 + 1)) x104000 x104001 x104002 x104003 x104004 x104005 x104006 x104007 x104008 x104009 x104010 x104011 x104012) else (plan_Dists.l2 k x5 x6 x7 x24 x25 x26 x40 x41 (wrap64 (x42 + 1)) x104000 x104001 x104002 x104003 x104004 x104005 x104006 x104007 x104008 x104009 x104010 x104011 x104012)) else (none)) else (none)) else (plan_Dists.l2 k x5 x6 x7 x24 x25 x26 x40 x41 (wrap64 (x42 + 1)) x104000 x104001 x104002 x104003 x104004 x104005 x104006 x104007 x104008 x104009 x104010 x104011 x104012)) else (none)) else (none)) else (none)) else (none)) else (plan_Dists.l1 k x5 x6 x7 x24 x25 (wrap64 (x26 + 1)) x104000 x104001 x104002 x104003 x104004 x104005 x104006 x104007 x104008 x104009 x104010 x104011 x104012)
end
def plan_Dists.f (k : Nat) (l0_0 : List (S60)) (l0_1 : List (S37)) (a0_2 : Int) (a0_3 : Int) (a0_4 : Int) (a0_5 : Int) (a0_6 : Int) (a0_7 : Int) (a0_8 : Int) (a0_9 : Int) (a0_10 : Int) (a0_11 : Int) (a0_12 : Int) (a1 : Int) : Option (List Int) := (slices_Repeat_int_int.f (([(-1)] : List Int)) (l0_0.length : Int)).bind fun t107 => (if 0 ≤ a1 then (if a1 < (t107.length : Int) then (plan_Dists.l0 k (t107.set (a1 : Int).toNat 0) 0 true l0_0 l0_1 a0_2 a0_3 a0_4 a0_5 a0_6 a0_7 a0_8 a0_9 a0_10 a0_11 a0_12) else (none)) else (none))
theorem plan_Dists.mono_l : ∀ k, (∀ y0 y1 y2 y3 y4 y5 y6 y7 y8 y9 y10 y11 y12 y13 y14 y15, LeO (plan_Dists.l0 k y0 y1 y2 y3 y4 y5 y6 y7 y8 y9 y10 y11 y12 y13 y14 y15) (plan_Dists.l0 (k + 1) y0 y1 y2 y3 y4 y5 y6 y7 y8 y9 y10 y11 y12 y13 y14 y15)) ∧ (∀ y0 y1 y2 y3 y4 y5 y6 y7 y8 y9 y10 y11 y12 y13 y14 y15 y16 y17 y18, LeO (plan_Dists.l1 k y0 y1 y2 y3 y4 y5 y6 y7 y8 y9 y10 y11 y12 y13 y14 y15 y16 y17 y18) (plan_Dists.l1 (k + 1) y0 y1 y2 y3 y4 y5 y6 y7 y8 y9 y10 y11 y12 y13 y14 y15 y16 y17 y18)) ∧ (∀ y0 y1 y2 y3 y4 y5 y6 y7 y8 y9 y10 y11 y12 y13 y14 y15 y16 y17 y18 y19 y20 y21, LeO (plan_Dists.l2 k y0 y1 y2 y3 y4 y5 y6 y7 y8 y9 y10 y11 y12 y13 y14 y15 y16 y17 y18 y19 y20 y21) (plan_Dists.l2 (k + 1) y0 y1 y2 y3 y4 y5 y6 y7 y8 y9 y10 y11 y12 y13 y14 y15 y16 y17 y18 y19 y20 y21))
 | 0 => ⟨fun _ _ _ _ _ _ _ _ _ _ _ _ _ _ _ _ r h => by simp [plan_Dists.l0] at h, fun _ _ _ _ _ _ _ _ _ _ _ _ _ _ _ _ _ _ _ r h => by simp [plan_Dists.l1] at h, fun _ _ _ _ _ _ _ _ _ _ _ _ _ _ _ _ _ _ _ _ _ _ r h => by simp [plan_Dists.l2] at h⟩
 | k + 1 => by
  obtain ⟨ih0, ih1, ih2⟩ := plan_Dists.mono_l k
  refine ⟨?_, ?_, ?_⟩
  ·intro y0 y1 y2 y3 y4 y5 y6 y7 y8 y9 y10 y11 y12 y13 y14 y15
   unfold plan_Dists.l0
   repeat' first
   | (with_reducible exact ih0 _ _ _ _ _ _ _ _ _ _ _ _ _ _ _ _)
   | (with_reducible exact ih1 _ _ _ _ _ _ _ _ _ _ _ _ _ _ _ _ _ _ _)
   | (with_reducible exact ih2 _ _ _ _ _ _ _ _ _ _ _ _ _ _ _ _ _ _ _ _ _ _)
   | (with_reducible exact LeO.refl _)
   | (with_reducible exact LeO.none _)
   | (with_reducible refine LeO.ite ?_ ?_)
   | (with_reducible refine LeO.bind ?_ (fun _ => ?_))
   | exact ih0 _ _ _ _ _ _ _ _ _ _ _ _ _ _ _ _
   | exact ih1 _ _ _ _ _ _ _ _ _ _ _ _ _ _ _ _ _ _ _
   | exact ih2 _ _ _ _ _ _ _ _ _ _ _ _ _ _ _ _ _ _ _ _ _ _
   | exact LeO.none _
   | refine LeO.ite ?_ ?_
   | refine LeO.bind ?_ (fun _ => ?_)
  ·intro y0 y1 y2 y3 y4 y5 y6 y7 y8 y9 y10 y11 y12 y13 y14 y15 y16 y17 y18
   unfold plan_Dists.l1
   repeat' first
   | (with_reducible exact ih0 _ _ _ _ _ _ _ _ _ _ _ _ _ _ _ _)
   | (with_reducible exact ih1 _ _ _ _ _ _ _ _ _ _ _ _ _ _ _ _ _ _ _)
   | (with_reducible exact ih2 _ _ _ _ _ _ _ _ _ _ _ _ _ _ _ _ _ _ _ _ _ _)
   | (with_reducible exact LeO.refl _)
   | (with_reducible exact LeO.none _)
   | (with_reducible refine LeO.ite ?_ ?_)
   | (with_reducible refine LeO.bind ?_ (fun _ => ?_))
   | exact ih0 _ _ _ _ _ _ _ _ _ _ _ _ _ _ _ _
   | exact ih1 _ _ _ _ _ _ _ _ _ _ _ _ _ _ _ _ _ _ _
   | exact ih2 _ _ _ _ _ _ _ _ _ _ _ _ _ _ _ _ _ _ _ _ _ _
   | exact LeO.none _
   | refine LeO.ite ?_ ?_
   | refine LeO.bind ?_ (fun _ => ?_)
  ·intro y0 y1 y2 y3 y4 y5 y6 y7 y8 y9 y10 y11 y12 y13 y14 y15 y16 y17 y18 y19 y20 y21
   unfold plan_Dists.l2
   repeat' first
   | (with_reducible exact ih0 _ _ _ _ _ _ _ _ _ _ _ _ _ _ _ _)
   | (with_reducible exact ih1 _ _ _ _ _ _ _ _ _ _ _ _ _ _ _ _ _ _ _)
   | (with_reducible exact ih2 _ _ _ _ _ _ _ _ _ _ _ _ _ _ _ _ _ _ _ _ _ _)
   | (with_reducible exact LeO.refl _)
   | (with_reducible exact LeO.none _)
   | (with_reducible refine LeO.ite ?_ ?_)
   | (with_reducible refine LeO.bind ?_ (fun _ => ?_))
   | exact ih0 _ _ _ _ _ _ _ _ _ _ _ _ _ _ _ _
   | exact ih1 _ _ _ _ _ _ _ _ _ _ _ _ _ _ _ _ _ _ _
   | exact ih2 _ _ _ _ _ _ _ _ _ _ _ _ _ _ _ _ _ _ _ _ _ _
   | exact LeO.none _
   | refine LeO.ite ?_ ?_
   | refine LeO.bind ?_ (fun _ => ?_)
theorem plan_Dists.mono : ∀ a0 a1 a2 a3 a4 a5 a6 a7 a8 a9 a10 a11 a12 a13 k, LeO (plan_Dists.f k a0 a1 a2 a3 a4 a5 a6 a7 a8 a9 a10 a11 a12 a13) (plan_Dists.f (k + 1) a0 a1 a2 a3 a4 a5 a6 a7 a8 a9 a10 a11 a12 a13) := by
 intro a0 a1 a2 a3 a4 a5 a6 a7 a8 a9 a10 a11 a12 a13 k
 obtain ⟨ih0, ih1, ih2⟩ := plan_Dists.mono_l k
 unfold plan_Dists.f
 repeat' first
   | (with_reducible exact ih0 _ _ _ _ _ _ _ _ _ _ _ _ _ _ _ _)
   | (with_reducible exact ih1 _ _ _ _ _ _ _ _ _ _ _ _ _ _ _ _ _ _ _)
   | (with_reducible exact ih2 _ _ _ _ _ _ _ _ _ _ _ _ _ _ _ _ _ _ _ _ _ _)
   | (with_reducible exact LeO.refl _)
   | (with_reducible exact LeO.none _)
   | (with_reducible refine LeO.ite ?_ ?_)
   | (with_reducible refine LeO.bind ?_ (fun _ => ?_))
   | exact ih0 _ _ _ _ _ _ _ _ _ _ _ _ _ _ _ _
   | exact ih1 _ _ _ _ _ _ _ _ _ _ _ _ _ _ _ _ _ _ _
   | exact ih2 _ _ _ _ _ _ _ _ _ _ _ _ _ _ _ _ _ _ _ _ _ _
   | exact LeO.none _
   | refine LeO.ite ?_ ?_
   | refine LeO.bind ?_ (fun _ => ?_)
set_option maxHeartbeats 8000000 in
set_option maxRecDepth 100000 in
theorem plan_Dists.calls (k : Nat) (A0_0 : Option Addr) (c0_0 : Nat) (l0_0 : List (S60)) (A0_1 : Option Addr) (c0_1 : Nat) (l0_1 : List (S37)) (a0_2 : Int) (a0_3 : Int) (a0_4 : Int) (a0_5 : Int) (a0_6 : Int) (a0_7 : Int) (a0_8 : Int) (a0_9 : Int) (a0_10 : Int) (a0_11 : Int) (a0_12 : Int) (a1 : Int) (r : List Int) (w : World) (hr0_0 : Kd.C k60 w A0_0 l0_0.length l0_0) (hc0_0 : l0_0.length ≤ c0_0) (hr0_1 : Kd.C k37 w A0_1 l0_1.length l0_1) (hc0_1 : l0_1.length ≤ c0_1) (h : plan_Dists.f k l0_0 l0_1 a0_2 a0_3 a0_4 a0_5 a0_6 a0_7 a0_8 a0_9 a0_10 a0_11 a0_12 a1 = some r) :
  Calls Tryd.prog 32 #[.agg #[.slice A0_0 l0_0.length c0_0, .slice A0_1 l0_1.length c0_1, .int .i64 a0_2, .int .i64 a0_3, .int .i64 a0_4, .int .i64 a0_5, .int .i64 a0_6, .int .i64 a0_7, .int .i64 a0_8, .int .i64 a0_9, .int .i64 a0_10, .int .i64 a0_11, .int .i64 a0_12], .int .i64 a1] w fun e w' => ∃ v0_ : Value, e = .returned (v0_) ∧ Kd.R (Kd.int .i64) 3 w' w.heap.size (fun _ => True) v0_ r ∧ Below w.heap.size w w' := by
 have hu25 := Tryd.underlying25
 have hu37 := Tryd.underlying37
 have hu35 := Tryd.underlying35
 have HR0_0 := Aside0.mk hr0_0
 have HC0_0 := Aside0.mk hc0_0
 clear hr0_0 hc0_0
 have HR0_1 := Aside0.mk hr0_1
 have HC0_1 := Aside0.mk hc0_1
 clear hr0_1 hc0_1
 have HB := Aside0.mk (Below.refl w.heap.size w)
 have H : ((slices_Repeat_int_int.f (([(-1)] : List Int)) (l0_0.length : Int)).bind fun t107 => (if 0 ≤ a1 then (if a1 < (t107.length : Int) then (plan_Dists.l0 k (t107.set (a1 : Int).toNat 0) 0 true l0_0 l0_1 a0_2 a0_3 a0_4 a0_5 a0_6 a0_7 a0_8 a0_9 a0_10 a0_11 a0_12) else (none)) else (none))) = some r := h
 clear h
 obtain ⟨y104, hy104⟩ : ∃ y_ : List Int, y_ = (([(-1)] : List Int)) := ⟨_, rfl⟩
 replace H : ((slices_Repeat_int_int.f y104 (l0_0.length : Int)).bind fun t107 => (if 0 ≤ a1 then (if a1 < (t107.length : Int) then (plan_Dists.l0 k (t107.set (a1 : Int).toNat 0) 0 true l0_0 l0_1 a0_2 a0_3 a0_4 a0_5 a0_6 a0_7 a0_8 a0_9 a0_10 a0_11 a0_12) else (none)) else (none))) = some r := by first | (rw [hy104]; with_reducible exact H) | (have H2_ := (Option.bind_some _ _).symm.trans H; rw [hy104]; with_reducible exact H2_) | (have H2_ := (Option.bind_some _ _).symm.trans H; with_reducible exact H2_) | with_reducible exact H | (rw [hy104]; exact H) | exact H
 have Ny104 := Aside0.mk hy104
 clear hy104
 replace H := Option.bind_eq_some_iff.mp H
 obtain ⟨t107, A30, H⟩ := H
 replace H : (if 0 ≤ a1 then (if a1 < (t107.length : Int) then (plan_Dists.l0 k (t107.set (a1 : Int).toNat 0) 0 true l0_0 l0_1 a0_2 a0_3 a0_4 a0_5 a0_6 a0_7 a0_8 a0_9 a0_10 a0_11 a0_12) else (none)) else (none)) = some r := H
 have A3 := Aside0.mk A30
 clear A30
 by_cases c4 : 0 ≤ a1
 ·rw [if_pos c4] at H
  have c4b0 : decide (0 ≤ a1) = true := decide_eq_true c4
  clear c4
  by_cases c5 : a1 < (t107.length : Int)
  ·rw [if_pos c5] at H
   have c5b0 : decide (a1 < (t107.length : Int)) = true := decide_eq_true c5
   clear c5
   obtain ⟨y110, hy110⟩ : ∃ y_ : List Int, y_ = (t107.set (a1 : Int).toNat 0) := ⟨_, rfl⟩
   replace H : (plan_Dists.l0 k y110 0 true l0_0 l0_1 a0_2 a0_3 a0_4 a0_5 a0_6 a0_7 a0_8 a0_9 a0_10 a0_11 a0_12) = some r := by first | (rw [hy110]; with_reducible exact H) | (have H2_ := (Option.bind_some _ _).symm.trans H; rw [hy110]; with_reducible exact H2_) | (have H2_ := (Option.bind_some _ _).symm.trans H; with_reducible exact H2_) | with_reducible exact H | (rw [hy110]; exact H) | exact H
   have Ny110 := Aside0.mk hy110
   clear hy110
   have H' := Aside0.mk H
   clear H
   go_enter Tryd.func32, Tryd.ntmps32
   go_wp2_with (first | ((with_reducible refine gate_dst (N := 2) rfl ?_); refine box_event ?hg (N := 2) ?hd (cs := #[.slice A0_0 l0_0.length c0_0, .slice A0_1 l0_1.length c0_1, .int .i64 a0_2, .int .i64 a0_3, .int .i64 a0_4, .int .i64 a0_5, .int .i64 a0_6, .int .i64 a0_7, .int .i64 a0_8, .int .i64 a0_9, .int .i64 a0_10, .int .i64 a0_11, .int .i64 a0_12]) (t := 25) ?hr ?_; (case hd => rfl); (case hg => rfl); (case hr => first | (go_simp; done) | (go_simp; rfl)); intro gb103 hg w7 hbox hb; have n0_ := Aside0.mk (below_step (by repeat (first | (with_reducible first | exact HB.out | apply below_alloc | apply pw_below_drewN | apply below_drew1) | exact HB.out)) hb); have n1_ := Aside0.mk (hbox); have n2_ := Aside0.mk ((by rw [hg]; exact (below_size (by repeat (first | (with_reducible first | exact HB.out | apply below_alloc | apply pw_below_drewN | apply below_drew1) | exact HB.out))) : w.heap.size ≤ gb103)); have n3_ := Aside0.mk ((by rw [hg]; exact (below_size (by repeat (first | (with_reducible first | exact HB.out | apply below_alloc | apply pw_below_drewN | apply below_drew1) | exact HB.out))) : w.heap.size ≤ gb103)); clear HB; have HB := n0_; have BK103 := n1_; have GW103 := n2_; have GE103 := n3_; clear n0_ n1_ n2_ n3_; clear hb hbox hg) | ((with_reducible refine gate_dst (N := 12) rfl ?_); refine Kd.R_lit (Kd.int .i64) _ 3 ?hg (N := 12) ?hd (xs := ([(-1)] : List Int)) (inner := [.int .i64 (-1)]) (ok := fun _ => True) (okp := fun _ => True) ?hr ?hp (fun _ hk => hk) trivial (Below.refl _ _) (Nat.le_refl _) (by simp) ?_; (case hd => rfl); (case hg => rfl); (case hr => first | (go_simp; done) | (go_simp; rfl)); (case hp => exact (Reps.one (show Kd.M (Kd.int .i64) _ _ _ (-1) [.int .i64 (-1)] from rfl) (Reps.none _ _))); intro v105 w8 ho9 hb hg_ hnew_; clear hg_ hnew_; (first | rw [← Ny104.out] at ho9 | (simp only [Int.reduceToNat] at ho9; rw [← Ny104.out] at ho9)); have n0_ := Aside0.mk (Kd.R_lower ho9 (below_size (by repeat (first | (with_reducible first | exact HB.out | apply below_alloc | apply pw_below_drewN | apply below_drew1 | refine below_set ?_ GE103.out) | exact HB.out)))); have n1_ := Aside0.mk (blk_below (g := gb103) (o := .cells #[.slice A0_0 l0_0.length c0_0, .slice A0_1 l0_1.length c0_1, .int .i64 a0_2, .int .i64 a0_3, .int .i64 a0_4, .int .i64 a0_5, .int .i64 a0_6, .int .i64 a0_7, .int .i64 a0_8, .int .i64 a0_9, .int .i64 a0_10, .int .i64 a0_11, .int .i64 a0_12] 25 (0, 0)) (by (with_reducible repeat (first | refine blk_drewN ?_ _ | refine blk_drew ?_ | refine blk_alloc ?_ _)); exact BK103.out) hb); have n2_ := Aside0.mk (below_step (by repeat (first | (with_reducible first | exact HB.out | apply below_alloc | apply pw_below_drewN | apply below_drew1 | refine below_set ?_ GE103.out) | exact HB.out)) hb); clear BK103; clear HB; have HO106 := n0_; have BK103 := n1_; have HB := n2_; clear n0_ n1_ n2_; clear hb ho9; obtain ⟨hcz10_0, hcz10_1, hcz10_2, hcz10_3, hcz10_4, hcz10_5, hcz10_6, hcz10_7, hcz10_8, hcz10_9, hcz10_10, hcz10_11, hcz10_12⟩ := cellsK13 BK103.out; obtain ⟨hfz10_0, hfz10_1, hfz10_2, hfz10_3, hfz10_4, hfz10_5, hfz10_6, hfz10_7, hfz10_8, hfz10_9, hfz10_10, hfz10_11, hfz10_12⟩ := frozK13 BK103.out; obtain ⟨Ao11, co11, eo11⟩ := Kd.R_slice HO106.out; subst eo11) | ((with_reducible refine gate_callee (f := 48) rfl ?_); refine goesL_ (some 16) rfl rfl Tryd.func48 (by kernel_rfl) rfl #[.slice Ao11 y104.length co11, .int .i64 (l0_0.length : Int)] rfl (by (try simp only [List.map_toArray, List.map_cons, List.map_nil]); first | done | rfl | (simp only [List.length_drop, List.length_take]; rfl)) ?_; (with_reducible refine (slices_Repeat_int_int.calls _ _ y104 (l0_0.length : Int) t107 _ ?side1 ?side2 A3.out).mono ?_); (case side1 => repeat (first | exact (Kd.R_reads' HO106.out).2.2 | (with_reducible refine Kd.C_alloc ?_ _) | (with_reducible refine Kd.C_drewN ?_ _) | (with_reducible refine Kd.C_drew ?_))); (case side2 => exact (Kd.R_reads' HO106.out).2.1); rintro e w12 ⟨v108, rfl, ho0, hb⟩; refine ⟨_, rfl, ?_⟩; have n0_ := Aside0.mk (Kd.R_elder' (by (with_reducible repeat (first | apply Kd.R_alloc | apply Kd.R_drewN | apply Kd.R_drew)); exact HO106.out) (Kd.R_base ho0) hb); have n1_ := Aside0.mk (Kd.R_lower (Kd.R_new' ho0 (Kd.R_lt (by (with_reducible repeat (first | apply Kd.R_alloc | apply Kd.R_drewN | apply Kd.R_drew)); exact HO106.out))) (below_size (by repeat (first | (with_reducible first | exact HB.out | apply below_alloc | apply pw_below_drewN | apply below_drew1 | refine below_set ?_ GE103.out) | exact HB.out)))); have n2_ := Aside0.mk (blk_below (g := gb103) (o := .cells #[.slice A0_0 l0_0.length c0_0, .slice A0_1 l0_1.length c0_1, .int .i64 a0_2, .int .i64 a0_3, .int .i64 a0_4, .int .i64 a0_5, .int .i64 a0_6, .int .i64 a0_7, .int .i64 a0_8, .int .i64 a0_9, .int .i64 a0_10, .int .i64 a0_11, .int .i64 a0_12] 25 (0, 0)) (by (with_reducible repeat (first | refine blk_drewN ?_ _ | refine blk_drew ?_ | refine blk_alloc ?_ _)); exact BK103.out) hb); have n3_ := Aside0.mk (below_step (by repeat (first | (with_reducible first | exact HB.out | apply below_alloc | apply pw_below_drewN | apply below_drew1 | refine below_set ?_ GE103.out) | exact HB.out)) hb); clear HO106; clear BK103; clear HB; have HO106 := n0_; have HO109 := n1_; have BK103 := n2_; have HB := n3_; clear n0_ n1_ n2_ n3_; (try clear hb); (try clear hb2); (try clear hk); (try clear hi); (try clear ho0); have p6 : 0 ≤ (a1 : Int) := of_decide_eq_true (by first | (with_reducible assumption) | assumption); have q6 : (a1 : Int) < ((t107.length : Int) : Int) := of_decide_eq_true (by first | (with_reducible assumption) | assumption); obtain ⟨go6, co6, eo6, gb6, gl6, cl6, HG6⟩ := Kd.R_form HO109.out (by omega); (first | cases eo6 | (injection eo6 with ea_ en_ ec_; (first | subst ea_ | (injection ea_ with ea_; subst ea_)); subst ec_; clear en_)); have GB6 := Aside0.mk gb6; have GG6 := Aside0.mk HG6; clear gb6 gl6 HG6; obtain ⟨hx6_0, hf6_0⟩ := Kd.R_celln 0 HO109.out (a1 : Int) p6 q6; replace p6 := eq_true p6; replace q6 := eq_true q6; have n_ := Aside0.mk (Kd.R_mono (ok' := (fun k_ => some k_ ≠ (.slice Ao11 y104.length co11 : Value).ownBlock)) HO109.out (fun k_ hk => hk.2)); clear HO109; have HO109 := n_; clear n_; obtain ⟨hy13_, hz13_⟩ := Kd.R_celln 0 HO109.out (a1 : Int) (of_decide_eq_true (by first | (with_reducible assumption) | assumption)) (of_decide_eq_true (by first | (with_reducible assumption) | assumption)); have HP13 := Kd.R_putg HO109.out (a1 : Int) 0) | ((with_reducible refine gate_store (t := 3) (p := 19) rfl ?_); refine store_event (t := 3) (p := 19) (v := ?vo_w14) (w1 := (w12.setCell ⟨go6, (a1 : Int).toNat, none⟩ (.int .i64 0))) ?hg ?ho ?hn ?hr ?_; (case ho => rfl); (case hg => rfl); (case hn => rfl); (case hr => first | (go_simp; done) | (go_simp; rfl)); intro w14 hw; have hg : w12.grownBy w14 (some go6) := (by rw [hw]; exact HP13.2); have hp_ : Kd.R (Kd.int .i64) 3 w14 w.heap.size (fun k_ => some k_ ≠ (.slice Ao11 y104.length co11 : Value).ownBlock) (.slice (some ⟨go6, 0, none⟩) t107.length co6) y110 := (by rw [hw, Ny110.out]; exact HP13.1); clear HP13; have n0_ := Aside0.mk (blk_grown (g := gb103) (o := .cells #[.slice A0_0 l0_0.length c0_0, .slice A0_1 l0_1.length c0_1, .int .i64 a0_2, .int .i64 a0_3, .int .i64 a0_4, .int .i64 a0_5, .int .i64 a0_6, .int .i64 a0_7, .int .i64 a0_8, .int .i64 a0_9, .int .i64 a0_10, .int .i64 a0_11, .int .i64 a0_12] 25 (0, 0)) (by (with_reducible repeat (first | refine blk_drewN ?_ _ | refine blk_drew ?_ | refine blk_alloc ?_ _)); exact BK103.out) hg (Kd.R_ne HO109.out BK103.out (by decide))); have n1_ := Aside0.mk (Kd.R_after (v := (.slice (some ⟨go6, 0, none⟩) t107.length co6)) (v1 := (.slice (some ⟨go6, 0, none⟩) t107.length co6)) (ok := (fun _ => True)) (by (with_reducible repeat (first | apply Kd.R_alloc | apply Kd.R_drewN | apply Kd.R_drew)); exact HO106.out) hg (.inl rfl)); have n2_ := Aside0.mk (hp_); have n3_ := Aside0.mk ((by rw [hw]; exact below_set (HB.out) GB6.out : Below w.heap.size w w14)); clear BK103; clear HO106; clear HO109; clear HB; have BK103 := n0_; have HO106 := n1_; have HO109 := n2_; have HB := n3_; clear n0_ n1_ n2_ n3_; clear hg hw hp_))
   go_loopg [6, 7] k (fun kq v6 v7 w' => ∃ (x5_1 : List Int) (x6_1 : Int) (x7_1 : Bool), v6 = .int .i64 x6_1 ∧ v7 = .bool x7_1 ∧ Aside0 (plan_Dists.l0 kq x5_1 x6_1 x7_1 l0_0 l0_1 a0_2 a0_3 a0_4 a0_5 a0_6 a0_7 a0_8 a0_9 a0_10 a0_11 a0_12 = some r) ∧ Aside0 (kq ≤ k) ∧ Aside0 (Kd.R (Kd.int .i64) 3 w' w.heap.size (fun _ => True) (.slice (some ⟨go6, 0, none⟩) t107.length co6) x5_1) ∧ Aside0 (w'.heap[gb103]? = some (.cells #[(.slice A0_0 l0_0.length c0_0), (.slice A0_1 l0_1.length c0_1), .int .i64 a0_2, .int .i64 a0_3, .int .i64 a0_4, .int .i64 a0_5, .int .i64 a0_6, .int .i64 a0_7, .int .i64 a0_8, .int .i64 a0_9, .int .i64 a0_10, .int .i64 a0_11, .int .i64 a0_12] 25 (0, 0))) ∧ Aside0 (Below w.heap.size w w'))
   case atStart => exact ⟨(y110), (0), (true), (by first | rfl | (simp; done) | (simp [*]; done) | (have := TNA.out; unfold wrap64; congr 1; omega) | (unfold wrap64; omega)), (by first | rfl | (simp; done) | (simp [*]; done) | (have := TNA.out; unfold wrap64; congr 1; omega) | (unfold wrap64; omega)), H', ⟨Nat.le_refl _⟩, ⟨by (with_reducible repeat (first | apply Kd.R_alloc | apply Kd.R_drewN | apply Kd.R_drew)); exact Kd.R_mono HO109.out (fun _ hk => trivial)⟩, ⟨by (with_reducible repeat (first | refine blk_drewN ?_ _ | refine blk_drew ?_ | refine blk_alloc ?_ _)); exact BK103.out⟩, ⟨by repeat (first | (with_reducible first | exact HB.out | apply below_alloc | apply pw_below_drewN | apply below_drew1 | refine below_set ?_ GE103.out) | exact HB.out)⟩⟩
   case round =>
    clear H'
    try clear p2
    try clear c3
    try clear c4
    try clear c4b0
    try clear c5
    try clear c5b0
    try clear p6
    try clear q6
    try clear hx6
    try clear hf6
    try clear hcz10_0
    try clear hcz10_1
    try clear hcz10_10
    try clear hcz10_11
    try clear hcz10_12
    try clear hcz10_2
    try clear hcz10_3
    try clear hcz10_4
    try clear hcz10_5
    try clear hcz10_6
    try clear hcz10_7
    try clear hcz10_8
    try clear hcz10_9
    try clear hfz10_0
    try clear hfz10_1
    try clear hfz10_10
    try clear hfz10_11
    try clear hfz10_12
    try clear hfz10_2
    try clear hfz10_3
    try clear hfz10_4
    try clear hfz10_5
    try clear hfz10_6
    try clear hfz10_7
    try clear hfz10_8
    try clear hfz10_9
    try clear hx6_0
    try clear p6
    try clear q6
    obtain ⟨x5_1, x6_1, x7_1, rfl, rfl, HA, HK1, HO_5, BK103, HB⟩ := hrel
    have hl5_1 := (Kd.R_reads' HO_5.out).1
    rw [hl5_1] at HO_5
    (try simp only [hl5_1])
    (try simp only [hl5_1] at BK103)
    cases gk with
    | zero => exact absurd HA.out (by simp [plan_Dists.l0])
    | succ k1 =>
     have H := HA.out
     clear HA
     simp only [plan_Dists.l0] at H
     by_cases c15 : x7_1 = true
     ·subst c15
      have H1 : (plan_Dists.l1 k1 x5_1 x6_1 false l0_1 (l0_1.length : Int) 0 l0_0 l0_1 a0_2 a0_3 a0_4 a0_5 a0_6 a0_7 a0_8 a0_9 a0_10 a0_11 a0_12) = some r := by rw [if_pos rfl] at H; exact H
      clear H
      have H := H1
      clear H1
      have H' := Aside0.mk H
      clear H
      obtain ⟨hcz16_0, hcz16_1, hcz16_2, hcz16_3, hcz16_4, hcz16_5, hcz16_6, hcz16_7, hcz16_8, hcz16_9, hcz16_10, hcz16_11, hcz16_12⟩ := cellsK13 BK103.out
      obtain ⟨hfz16_0, hfz16_1, hfz16_2, hfz16_3, hfz16_4, hfz16_5, hfz16_6, hfz16_7, hfz16_8, hfz16_9, hfz16_10, hfz16_11, hfz16_12⟩ := frozK13 BK103.out
      go_wp2
      go_loopg [7, 26] k1 (fun kq v7 v26 w' => ∃ (x5_2 : List Int) (x7_2 : Bool) (x26_2 : Int), v7 = .bool x7_2 ∧ v26 = .int .i64 x26_2 ∧ Aside0 (plan_Dists.l1 kq x5_2 x6_1 x7_2 l0_1 (l0_1.length : Int) x26_2 l0_0 l0_1 a0_2 a0_3 a0_4 a0_5 a0_6 a0_7 a0_8 a0_9 a0_10 a0_11 a0_12 = some r) ∧ Aside0 (kq ≤ k1) ∧ Aside0 (Kd.R (Kd.int .i64) 3 w' w.heap.size (fun _ => True) (.slice (some ⟨go6, 0, none⟩) x5_1.length co6) x5_2) ∧ Aside0 (w'.heap[gb103]? = some (.cells #[(.slice A0_0 l0_0.length c0_0), (.slice A0_1 l0_1.length c0_1), .int .i64 a0_2, .int .i64 a0_3, .int .i64 a0_4, .int .i64 a0_5, .int .i64 a0_6, .int .i64 a0_7, .int .i64 a0_8, .int .i64 a0_9, .int .i64 a0_10, .int .i64 a0_11, .int .i64 a0_12] 25 (0, 0))) ∧ Aside0 (Below w.heap.size w w'))
      case atStart => exact ⟨(x5_1), (false), (0), (by first | rfl | (simp; done) | (simp [*]; done) | (have := TNA.out; unfold wrap64; congr 1; omega) | (unfold wrap64; omega)), (by first | rfl | (simp; done) | (simp [*]; done) | (have := TNA.out; unfold wrap64; congr 1; omega) | (unfold wrap64; omega)), H', ⟨Nat.le_refl _⟩, ⟨by (try simp only [hl5_1]); (with_reducible repeat (first | apply Kd.R_alloc | apply Kd.R_drewN | apply Kd.R_drew)); exact HO_5.out⟩, ⟨by (try simp only [hl5_1]); (with_reducible repeat (first | refine blk_drewN ?_ _ | refine blk_drew ?_ | refine blk_alloc ?_ _)); exact BK103.out⟩, ⟨by repeat (first | (with_reducible first | exact HB.out | apply below_alloc | apply pw_below_drewN | apply below_drew1 | refine below_set ?_ GE103.out) | exact HB.out)⟩⟩
      case round =>
       clear H'
       try clear c1
       try clear p2
       try clear c3
       try clear c4
       try clear c4b0
       try clear c5
       try clear c5b0
       try clear p6
       try clear q6
       try clear hx6
       try clear hf6
       try clear c15
       try clear hcz10_0
       try clear hcz10_1
       try clear hcz10_10
       try clear hcz10_11
       try clear hcz10_12
       try clear hcz10_2
       try clear hcz10_3
       try clear hcz10_4
       try clear hcz10_5
       try clear hcz10_6
       try clear hcz10_7
       try clear hcz10_8
       try clear hcz10_9
       try clear hcz16_0
       try clear hcz16_1
       try clear hcz16_10
       try clear hcz16_11
       try clear hcz16_12
       try clear hcz16_2
       try clear hcz16_3
       try clear hcz16_4
       try clear hcz16_5
       try clear hcz16_6
       try clear hcz16_7
       try clear hcz16_8
       try clear hcz16_9
       try clear hfz10_0
       try clear hfz10_1
       try clear hfz10_10
       try clear hfz10_11
       try clear hfz10_12
       try clear hfz10_2
       try clear hfz10_3
       try clear hfz10_4
       try clear hfz10_5
       try clear hfz10_6
       try clear hfz10_7
       try clear hfz10_8
       try clear hfz10_9
       try clear hfz16_0
       try clear hfz16_1
       try clear hfz16_10
       try clear hfz16_11
       try clear hfz16_12
       try clear hfz16_2
       try clear hfz16_3
       try clear hfz16_4
       try clear hfz16_5
       try clear hfz16_6
       try clear hfz16_7
       try clear hfz16_8
       try clear hfz16_9
       try clear hx6_0
       try clear p2
       try clear p6
       try clear q6
       obtain ⟨x5_2, x7_2, x26_2, rfl, rfl, HA, HK2, HO_5, BK103, HB⟩ := hrel
       have hl5_2 := (Kd.R_reads' HO_5.out).1
       rw [hl5_2] at HO_5
       (try simp only [hl5_2])
       (try simp only [hl5_2] at BK103)
       cases gk with
       | zero => exact absurd HA.out (by simp [plan_Dists.l1])
       | succ k2 =>
        have H := HA.out
        clear HA
        simp only [plan_Dists.l1] at H
        by_cases c17 : x26_2 < (l0_1.length : Int)
        ·rw [if_pos c17] at H
         have c17b0 : decide (x26_2 < (l0_1.length : Int)) = true := decide_eq_true c17
         clear c17
         by_cases c18 : 0 ≤ x26_2
         ·rw [if_pos c18] at H
          have c18b0 : decide (0 ≤ x26_2) = true := decide_eq_true c18
          clear c18
          by_cases c19 : x26_2 < (l0_1.length : Int)
          ·rw [if_pos c19] at H
           have c19b0 : decide (x26_2 < (l0_1.length : Int)) = true := decide_eq_true c19
           clear c19
           obtain ⟨y113, hy113⟩ : ∃ y_ : List (S35), y_ = (([(⟨(rd_T37 l0_1 x26_2).f0, (rd_T37 l0_1 x26_2).f1⟩ : S35), (⟨(rd_T37 l0_1 x26_2).f1, (rd_T37 l0_1 x26_2).f0⟩ : S35)] : List (S35))) := ⟨_, rfl⟩
           replace H : (plan_Dists.l2 k2 x5_2 x6_1 x7_2 l0_1 (l0_1.length : Int) x26_2 y113 (y113.length : Int) 0 l0_0 l0_1 a0_2 a0_3 a0_4 a0_5 a0_6 a0_7 a0_8 a0_9 a0_10 a0_11 a0_12) = some r := by first | (rw [hy113]; with_reducible exact H) | (have H2_ := (Option.bind_some _ _).symm.trans H; rw [hy113]; with_reducible exact H2_) | (have H2_ := (Option.bind_some _ _).symm.trans H; with_reducible exact H2_) | with_reducible exact H | (rw [hy113]; exact H) | exact H
           have Ny113 := Aside0.mk hy113
           clear hy113
           have H' := Aside0.mk H
           clear H
           have p111 : 0 ≤ (x26_2 : Int) := of_decide_eq_true (by first | (with_reducible assumption) | assumption)
           have q111 : x26_2 < (l0_1.length : Int) := of_decide_eq_true (by first | (with_reducible assumption) | assumption)
           obtain ⟨ad111, e111, hx111_0, hx111_1, hx111_2, hx111_3, hx111_4, hx111_5⟩ := at_T37 HR0_1.out x26_2 p111 q111
           cases e111
           replace hx111_0 := (HB.out.cell (World.block_lt_of_cell? w _ hx111_0)).trans hx111_0
           replace hx111_1 := (HB.out.cell (World.block_lt_of_cell? w _ hx111_1)).trans hx111_1
           replace hx111_2 := (HB.out.cell (World.block_lt_of_cell? w _ hx111_2)).trans hx111_2
           replace hx111_3 := (HB.out.cell (World.block_lt_of_cell? w _ hx111_3)).trans hx111_3
           replace hx111_4 := (HB.out.cell (World.block_lt_of_cell? w _ hx111_4)).trans hx111_4
           replace hx111_5 := (HB.out.cell (World.block_lt_of_cell? w _ hx111_5)).trans hx111_5
           replace p111 := eq_true p111
           replace q111 := eq_true q111
           go_wp2_with (first | ((with_reducible refine gate_dst (N := 9) rfl ?_); refine box_event ?hg (N := 9) ?hd (cs := #[.int .i64 0, .int .i64 0, .int .i64 0, .int .i64 0, .int .i64 0, .int .i64 0]) (t := 37) ?hr ?_; (case hd => rfl); (case hg => rfl); (case hr => first | (go_simp; done) | (go_simp; rfl)); intro gb112 hg w20 hbox hb; have n0_ := Aside0.mk (Kd.R_below (by (with_reducible repeat (first | apply Kd.R_alloc | apply Kd.R_drewN | apply Kd.R_drew)); exact HO_5.out) hb); have n1_ := Aside0.mk (blk_below (g := gb103) (o := .cells #[.slice A0_0 l0_0.length c0_0, .slice (some ad111) l0_1.length c0_1, .int .i64 a0_2, .int .i64 a0_3, .int .i64 a0_4, .int .i64 a0_5, .int .i64 a0_6, .int .i64 a0_7, .int .i64 a0_8, .int .i64 a0_9, .int .i64 a0_10, .int .i64 a0_11, .int .i64 a0_12] 25 (0, 0)) (by (with_reducible repeat (first | refine blk_drewN ?_ _ | refine blk_drew ?_ | refine blk_alloc ?_ _)); exact BK103.out) hb); have n2_ := Aside0.mk (below_step (by repeat (first | (with_reducible first | exact HB.out | apply below_alloc | apply pw_below_drewN | apply below_drew1 | refine below_set ?_ GE103.out) | exact HB.out)) hb); have n3_ := Aside0.mk (hbox); have n4_ := Aside0.mk ((by rw [hg]; exact (below_size (by repeat (first | (with_reducible first | exact HB.out | apply below_alloc | apply pw_below_drewN | apply below_drew1 | refine below_set ?_ GE103.out) | exact HB.out))) : w.heap.size ≤ gb112)); have n5_ := Aside0.mk ((by rw [hg]; exact (below_size (by repeat (first | (with_reducible first | exact HB.out | apply below_alloc | apply pw_below_drewN | apply below_drew1 | refine below_set ?_ GE103.out) | exact HB.out))) : w.heap.size ≤ gb112)); have n6_ := Aside0.mk ((by rw [hg]; exact Nat.ne_of_lt (blk_lt (g := gb103) (o := .cells #[.slice A0_0 l0_0.length c0_0, .slice (some ad111) l0_1.length c0_1, .int .i64 a0_2, .int .i64 a0_3, .int .i64 a0_4, .int .i64 a0_5, .int .i64 a0_6, .int .i64 a0_7, .int .i64 a0_8, .int .i64 a0_9, .int .i64 a0_10, .int .i64 a0_11, .int .i64 a0_12] 25 (0, 0)) (by (with_reducible repeat (first | refine blk_drewN ?_ _ | refine blk_drew ?_ | refine blk_alloc ?_ _)); exact BK103.out)) : gb103 ≠ gb112)); have n7_ := Aside0.mk ((by rw [hg]; exact Nat.ne_of_gt (blk_lt (g := gb103) (o := .cells #[.slice A0_0 l0_0.length c0_0, .slice (some ad111) l0_1.length c0_1, .int .i64 a0_2, .int .i64 a0_3, .int .i64 a0_4, .int .i64 a0_5, .int .i64 a0_6, .int .i64 a0_7, .int .i64 a0_8, .int .i64 a0_9, .int .i64 a0_10, .int .i64 a0_11, .int .i64 a0_12] 25 (0, 0)) (by (with_reducible repeat (first | refine blk_drewN ?_ _ | refine blk_drew ?_ | refine blk_alloc ?_ _)); exact BK103.out)) : gb112 ≠ gb103)); clear HO_5; clear BK103; clear HB; have HO_5 := n0_; have BK103 := n1_; have HB := n2_; have BK112 := n3_; have GW112 := n4_; have GE112 := n5_; have NB103_112 := n6_; have NB112_103 := n7_; clear n0_ n1_ n2_ n3_ n4_ n5_ n6_ n7_; clear hb hbox hg; have hnb21 := NB112_103.out; have hnc21 := NB103_112.out; obtain ⟨hcz22_0, hcz22_1, hcz22_2, hcz22_3, hcz22_4, hcz22_5⟩ := cellsK6 BK112.out; obtain ⟨hfz22_0, hfz22_1, hfz22_2, hfz22_3, hfz22_4, hfz22_5⟩ := frozK6 BK112.out) | ((with_reducible refine gate_dst (N := 40) rfl ?_); refine Kd.R_lit k35 _ 35 ?hg (N := 40) ?hd (xs := ([(⟨(rd_T37 l0_1 x26_2).f0, (rd_T37 l0_1 x26_2).f1⟩ : S35), (⟨(rd_T37 l0_1 x26_2).f1, (rd_T37 l0_1 x26_2).f0⟩ : S35)] : List (S35))) (inner := [.int .i64 ((rd_T37 l0_1 x26_2).f0), .int .i64 ((rd_T37 l0_1 x26_2).f1), .int .i64 ((rd_T37 l0_1 x26_2).f1), .int .i64 ((rd_T37 l0_1 x26_2).f0)]) (ok := fun _ => True) (okp := fun _ => True) ?hr ?hp (fun _ hk => hk) trivial (Below.refl _ _) (Nat.le_refl _) (by simp) ?_; (case hd => rfl); (case hg => rfl); (case hr => first | (go_simp; done) | (go_simp; rfl)); (case hp => exact (Reps.c2 (show Kd.M k35 _ _ _ (⟨(rd_T37 l0_1 x26_2).f0, (rd_T37 l0_1 x26_2).f1⟩ : S35) [.int .i64 ((rd_T37 l0_1 x26_2).f0), .int .i64 ((rd_T37 l0_1 x26_2).f1)] from (k35_mkM _ _ _ (⟨(rd_T37 l0_1 x26_2).f0, (rd_T37 l0_1 x26_2).f1⟩ : S35) )) (Reps.c2 (show Kd.M k35 _ _ _ (⟨(rd_T37 l0_1 x26_2).f1, (rd_T37 l0_1 x26_2).f0⟩ : S35) [.int .i64 ((rd_T37 l0_1 x26_2).f1), .int .i64 ((rd_T37 l0_1 x26_2).f0)] from (k35_mkM _ _ _ (⟨(rd_T37 l0_1 x26_2).f1, (rd_T37 l0_1 x26_2).f0⟩ : S35) )) (Reps.none _ _)))); intro v114 w23 ho24 hb hg_ hnew_; clear hg_ hnew_; (first | rw [← Ny113.out] at ho24 | (simp only [Int.reduceToNat] at ho24; rw [← Ny113.out] at ho24)); have n0_ := Aside0.mk (Kd.R_below (by (with_reducible repeat (first | apply Kd.R_alloc | apply Kd.R_drewN | apply Kd.R_drew)); exact (Kd.R_mono (Kd.R_far (p := ⟨gb112, 5, none⟩) (Kd.R_far (p := ⟨gb112, 4, none⟩) (Kd.R_far (p := ⟨gb112, 3, none⟩) (Kd.R_far (p := ⟨gb112, 2, none⟩) (Kd.R_far (p := ⟨gb112, 1, none⟩) (Kd.R_far (p := ⟨gb112, 0, none⟩) (Kd.R_types HO_5.out BK112.out (by decide)) (fun _ hk => hk.2) (.int .i64 ((rd_T37 l0_1 x26_2).f0))) (fun _ hk => hk.2) (.int .i64 ((rd_T37 l0_1 x26_2).f1))) (fun _ hk => hk.2) (.int .i64 ((rd_T37 l0_1 x26_2).f2.f0))) (fun _ hk => hk.2) (.int .i64 ((rd_T37 l0_1 x26_2).f2.f1))) (fun _ hk => hk.2) (.int .i64 ((rd_T37 l0_1 x26_2).f3.f0))) (fun _ hk => hk.2) (.int .i64 ((rd_T37 l0_1 x26_2).f3.f1))) (fun _ h_ => h_.1))) hb); have n1_ := Aside0.mk (Kd.R_lower ho24 (below_size (by repeat (first | (with_reducible first | exact HB.out | apply below_alloc | apply pw_below_drewN | apply below_drew1 | refine below_set ?_ GE103.out | refine below_set ?_ GE112.out) | exact HB.out)))); have n2_ := Aside0.mk (blk_below (g := gb103) (o := .cells #[.slice A0_0 l0_0.length c0_0, .slice (some ad111) l0_1.length c0_1, .int .i64 a0_2, .int .i64 a0_3, .int .i64 a0_4, .int .i64 a0_5, .int .i64 a0_6, .int .i64 a0_7, .int .i64 a0_8, .int .i64 a0_9, .int .i64 a0_10, .int .i64 a0_11, .int .i64 a0_12] 25 (0, 0)) (by (with_reducible repeat (first | refine blk_drewN ?_ _ | refine blk_drew ?_ | refine blk_alloc ?_ _)); refine blk_far ?_ NB103_112.out _; (with_reducible repeat (first | refine blk_drewN ?_ _ | refine blk_drew ?_ | refine blk_alloc ?_ _)); refine blk_far ?_ NB103_112.out _; (with_reducible repeat (first | refine blk_drewN ?_ _ | refine blk_drew ?_ | refine blk_alloc ?_ _)); refine blk_far ?_ NB103_112.out _; (with_reducible repeat (first | refine blk_drewN ?_ _ | refine blk_drew ?_ | refine blk_alloc ?_ _)); refine blk_far ?_ NB103_112.out _; (with_reducible repeat (first | refine blk_drewN ?_ _ | refine blk_drew ?_ | refine blk_alloc ?_ _)); refine blk_far ?_ NB103_112.out _; (with_reducible repeat (first | refine blk_drewN ?_ _ | refine blk_drew ?_ | refine blk_alloc ?_ _)); refine blk_far ?_ NB103_112.out _; (with_reducible repeat (first | refine blk_drewN ?_ _ | refine blk_drew ?_ | refine blk_alloc ?_ _)); exact BK103.out) hb); have n3_ := Aside0.mk (blk_below (g := gb112) (o := .cells #[.int .i64 ((rd_T37 l0_1 x26_2).f0), .int .i64 ((rd_T37 l0_1 x26_2).f1), .int .i64 ((rd_T37 l0_1 x26_2).f2.f0), .int .i64 ((rd_T37 l0_1 x26_2).f2.f1), .int .i64 ((rd_T37 l0_1 x26_2).f3.f0), .int .i64 ((rd_T37 l0_1 x26_2).f3.f1)] 37 (0, 0)) (by (with_reducible repeat (first | refine blk_drewN ?_ _ | refine blk_drew ?_ | refine blk_alloc ?_ _)); refine blk_put (cs := #[.int .i64 ((rd_T37 l0_1 x26_2).f0), .int .i64 ((rd_T37 l0_1 x26_2).f1), .int .i64 ((rd_T37 l0_1 x26_2).f2.f0), .int .i64 ((rd_T37 l0_1 x26_2).f2.f1), .int .i64 ((rd_T37 l0_1 x26_2).f3.f0), .int .i64 0]) ?_ 5 _ rfl; (with_reducible repeat (first | refine blk_drewN ?_ _ | refine blk_drew ?_ | refine blk_alloc ?_ _)); refine blk_put (cs := #[.int .i64 ((rd_T37 l0_1 x26_2).f0), .int .i64 ((rd_T37 l0_1 x26_2).f1), .int .i64 ((rd_T37 l0_1 x26_2).f2.f0), .int .i64 ((rd_T37 l0_1 x26_2).f2.f1), .int .i64 0, .int .i64 0]) ?_ 4 _ rfl; (with_reducible repeat (first | refine blk_drewN ?_ _ | refine blk_drew ?_ | refine blk_alloc ?_ _)); refine blk_put (cs := #[.int .i64 ((rd_T37 l0_1 x26_2).f0), .int .i64 ((rd_T37 l0_1 x26_2).f1), .int .i64 ((rd_T37 l0_1 x26_2).f2.f0), .int .i64 0, .int .i64 0, .int .i64 0]) ?_ 3 _ rfl; (with_reducible repeat (first | refine blk_drewN ?_ _ | refine blk_drew ?_ | refine blk_alloc ?_ _)); refine blk_put (cs := #[.int .i64 ((rd_T37 l0_1 x26_2).f0), .int .i64 ((rd_T37 l0_1 x26_2).f1), .int .i64 0, .int .i64 0, .int .i64 0, .int .i64 0]) ?_ 2 _ rfl; (with_reducible repeat (first | refine blk_drewN ?_ _ | refine blk_drew ?_ | refine blk_alloc ?_ _)); refine blk_put (cs := #[.int .i64 ((rd_T37 l0_1 x26_2).f0), .int .i64 0, .int .i64 0, .int .i64 0, .int .i64 0, .int .i64 0]) ?_ 1 _ rfl; (with_reducible repeat (first | refine blk_drewN ?_ _ | refine blk_drew ?_ | refine blk_alloc ?_ _)); refine blk_put (cs := #[.int .i64 0, .int .i64 0, .int .i64 0, .int .i64 0, .int .i64 0, .int .i64 0]) ?_ 0 _ rfl; (with_reducible repeat (first | refine blk_drewN ?_ _ | refine blk_drew ?_ | refine blk_alloc ?_ _)); exact BK112.out) hb); have n4_ := Aside0.mk (below_step (by repeat (first | (with_reducible first | exact HB.out | apply below_alloc | apply pw_below_drewN | apply below_drew1 | refine below_set ?_ GE103.out | refine below_set ?_ GE112.out) | exact HB.out)) hb); clear HO_5; clear BK103; clear BK112; clear HB; have HO_5 := n0_; have HO115 := n1_; have BK103 := n2_; have BK112 := n3_; have HB := n4_; clear n0_ n1_ n2_ n3_ n4_; clear hb ho24; obtain ⟨Ao25, co25, eo25⟩ := Kd.R_slice HO115.out; subst eo25))
           go_loopg [7, 42] k2 (fun kq v7 v42 w' => ∃ (x5_3 : List Int) (x7_3 : Bool) (x42_3 : Int), v7 = .bool x7_3 ∧ v42 = .int .i64 x42_3 ∧ Aside0 (plan_Dists.l2 kq x5_3 x6_1 x7_3 l0_1 (l0_1.length : Int) x26_2 y113 (y113.length : Int) x42_3 l0_0 l0_1 a0_2 a0_3 a0_4 a0_5 a0_6 a0_7 a0_8 a0_9 a0_10 a0_11 a0_12 = some r) ∧ Aside0 (kq ≤ k2) ∧ Aside0 (Kd.R (Kd.int .i64) 3 w' w.heap.size (fun _ => True) (.slice (some ⟨go6, 0, none⟩) x5_2.length co6) x5_3) ∧ Aside0 (Kd.R k35 35 w' w.heap.size (fun _ => True) (.slice Ao25 y113.length co25) y113) ∧ Aside0 (w'.heap[gb103]? = some (.cells #[(.slice A0_0 l0_0.length c0_0), (.slice (some ad111) l0_1.length c0_1), .int .i64 a0_2, .int .i64 a0_3, .int .i64 a0_4, .int .i64 a0_5, .int .i64 a0_6, .int .i64 a0_7, .int .i64 a0_8, .int .i64 a0_9, .int .i64 a0_10, .int .i64 a0_11, .int .i64 a0_12] 25 (0, 0))) ∧ Aside0 (w'.heap[gb112]? = some (.cells #[.int .i64 ((rd_T37 l0_1 x26_2).f0), .int .i64 ((rd_T37 l0_1 x26_2).f1), .int .i64 ((rd_T37 l0_1 x26_2).f2.f0), .int .i64 ((rd_T37 l0_1 x26_2).f2.f1), .int .i64 ((rd_T37 l0_1 x26_2).f3.f0), .int .i64 ((rd_T37 l0_1 x26_2).f3.f1)] 37 (0, 0))) ∧ Aside0 (Below w.heap.size w w'))
           case atStart => exact ⟨(x5_2), (x7_2), (0), (by first | rfl | (simp; done) | (simp [*]; done) | (have := TNA.out; unfold wrap64; congr 1; omega) | (unfold wrap64; omega)), (by first | rfl | (simp; done) | (simp [*]; done) | (have := TNA.out; unfold wrap64; congr 1; omega) | (unfold wrap64; omega)), H', ⟨Nat.le_refl _⟩, ⟨by (try simp only [hl5_1]); (try simp only [hl5_2]); (with_reducible repeat (first | apply Kd.R_alloc | apply Kd.R_drewN | apply Kd.R_drew)); exact HO_5.out⟩, ⟨by (try simp only [hl5_1]); (try simp only [hl5_2]); (with_reducible repeat (first | apply Kd.R_alloc | apply Kd.R_drewN | apply Kd.R_drew)); exact HO115.out⟩, ⟨by (try simp only [hl5_1]); (try simp only [hl5_2]); (with_reducible repeat (first | refine blk_drewN ?_ _ | refine blk_drew ?_ | refine blk_alloc ?_ _)); exact BK103.out⟩, ⟨by (try simp only [hl5_1]); (try simp only [hl5_2]); (with_reducible repeat (first | refine blk_drewN ?_ _ | refine blk_drew ?_ | refine blk_alloc ?_ _)); exact BK112.out⟩, ⟨by repeat (first | (with_reducible first | exact HB.out | apply below_alloc | apply pw_below_drewN | apply below_drew1 | refine below_set ?_ GE103.out | refine below_set ?_ GE112.out) | exact HB.out)⟩⟩
           case round =>
            clear H'
            try clear c1
            try clear p1
            try clear q1
            try clear hx1
            try clear c2
            try clear p2
            try clear c3
            try clear c4
            try clear c4b0
            try clear c5
            try clear c5b0
            try clear p6
            try clear q6
            try clear hx6
            try clear hf6
            try clear p11
            try clear q11
            try clear hx11
            try clear c15
            try clear c17
            try clear c17b0
            try clear c18
            try clear c18b0
            try clear c19
            try clear c19b0
            try clear c21
            try clear hcz10_0
            try clear hcz10_1
            try clear hcz10_10
            try clear hcz10_11
            try clear hcz10_12
            try clear hcz10_2
            try clear hcz10_3
            try clear hcz10_4
            try clear hcz10_5
            try clear hcz10_6
            try clear hcz10_7
            try clear hcz10_8
            try clear hcz10_9
            try clear hcz16_0
            try clear hcz16_1
            try clear hcz16_10
            try clear hcz16_11
            try clear hcz16_12
            try clear hcz16_2
            try clear hcz16_3
            try clear hcz16_4
            try clear hcz16_5
            try clear hcz16_6
            try clear hcz16_7
            try clear hcz16_8
            try clear hcz16_9
            try clear hcz22_0
            try clear hcz22_1
            try clear hcz22_2
            try clear hcz22_3
            try clear hcz22_4
            try clear hcz22_5
            try clear hfz10_0
            try clear hfz10_1
            try clear hfz10_10
            try clear hfz10_11
            try clear hfz10_12
            try clear hfz10_2
            try clear hfz10_3
            try clear hfz10_4
            try clear hfz10_5
            try clear hfz10_6
            try clear hfz10_7
            try clear hfz10_8
            try clear hfz10_9
            try clear hfz16_0
            try clear hfz16_1
            try clear hfz16_10
            try clear hfz16_11
            try clear hfz16_12
            try clear hfz16_2
            try clear hfz16_3
            try clear hfz16_4
            try clear hfz16_5
            try clear hfz16_6
            try clear hfz16_7
            try clear hfz16_8
            try clear hfz16_9
            try clear hfz22_0
            try clear hfz22_1
            try clear hfz22_2
            try clear hfz22_3
            try clear hfz22_4
            try clear hfz22_5
            try clear hx111_0
            try clear hx111_1
            try clear hx111_2
            try clear hx111_3
            try clear hx111_4
            try clear hx111_5
            try clear hx6_0
            try clear p111
            try clear p2
            try clear p6
            try clear q111
            try clear q6
            obtain ⟨x5_3, x7_3, x42_3, rfl, rfl, HA, HK3, HO_5, HO_40, BK103, BK112, HB⟩ := hrel
            have hl5_3 := (Kd.R_reads' HO_5.out).1
            rw [hl5_3] at HO_5
            (try simp only [hl5_3])
            (try simp only [hl5_3] at BK103)
            (try simp only [hl5_3] at BK112)
            (try simp only [hl5_3] at HO_40)
            cases gk with
            | zero => exact absurd HA.out (by simp [plan_Dists.l2])
            | succ k3 =>
             have H := HA.out
             clear HA
             simp only [plan_Dists.l2] at H
             by_cases c26 : x42_3 < (y113.length : Int)
             ·rw [if_pos c26] at H
              have c26b0 : decide (x42_3 < (y113.length : Int)) = true := decide_eq_true c26
              clear c26
              by_cases c27 : 0 ≤ x42_3
              ·rw [if_pos c27] at H
               have c27b0 : decide (0 ≤ x42_3) = true := decide_eq_true c27
               clear c27
               by_cases c28 : x42_3 < (y113.length : Int)
               ·rw [if_pos c28] at H
                have c28b0 : decide (x42_3 < (y113.length : Int)) = true := decide_eq_true c28
                clear c28
                by_cases c29 : 0 ≤ ((rd_T35 y113 x42_3).f0)
                ·rw [if_pos c29] at H
                 have c29b0 : decide (0 ≤ ((rd_T35 y113 x42_3).f0)) = true := decide_eq_true c29
                 clear c29
                 by_cases c30 : ((rd_T35 y113 x42_3).f0) < (x5_3.length : Int)
                 ·rw [if_pos c30] at H
                  have c30b0 : decide (((rd_T35 y113 x42_3).f0) < (x5_3.length : Int)) = true := decide_eq_true c30
                  clear c30
                  by_cases c31 : (rd x5_3 ((rd_T35 y113 x42_3).f0)) = x6_1
                  ·rw [if_pos c31] at H
                   have c31b0 : ((rd x5_3 ((rd_T35 y113 x42_3).f0)) == x6_1) = true := beq_iff_eq.mpr c31
                   have c31b1 : ((rd x5_3 ((rd_T35 y113 x42_3).f0)) != x6_1) = false := bne_eq_false_iff_eq.mpr c31
                   clear c31
                   by_cases c32 : 0 ≤ ((rd_T35 y113 x42_3).f1)
                   ·rw [if_pos c32] at H
                    have c32b0 : decide (0 ≤ ((rd_T35 y113 x42_3).f1)) = true := decide_eq_true c32
                    clear c32
                    by_cases c33 : ((rd_T35 y113 x42_3).f1) < (x5_3.length : Int)
                    ·rw [if_pos c33] at H
                     have c33b0 : decide (((rd_T35 y113 x42_3).f1) < (x5_3.length : Int)) = true := decide_eq_true c33
                     clear c33
                     by_cases c34 : (rd x5_3 ((rd_T35 y113 x42_3).f1)) < 0
                     ·rw [if_pos c34] at H
                      have c34b0 : decide ((rd x5_3 ((rd_T35 y113 x42_3).f1)) < 0) = true := decide_eq_true c34
                      clear c34
                      obtain ⟨y120, hy120⟩ : ∃ y_ : List Int, y_ = (x5_3.set (((rd_T35 y113 x42_3).f1) : Int).toNat (wrap64 (x6_1 + 1))) := ⟨_, rfl⟩
                      replace H : (plan_Dists.l2 k3 y120 x6_1 true l0_1 (l0_1.length : Int) x26_2 y113 (y113.length : Int) (wrap64 (x42_3 + 1)) l0_0 l0_1 a0_2 a0_3 a0_4 a0_5 a0_6 a0_7 a0_8 a0_9 a0_10 a0_11 a0_12) = some r := by first | (rw [hy120]; with_reducible exact H) | (have H2_ := (Option.bind_some _ _).symm.trans H; rw [hy120]; with_reducible exact H2_) | (have H2_ := (Option.bind_some _ _).symm.trans H; with_reducible exact H2_) | with_reducible exact H | (rw [hy120]; exact H) | exact H
                      have Ny120 := Aside0.mk hy120
                      clear hy120
                      have H' := Aside0.mk H
                      clear H
                      have p116 : 0 ≤ (x42_3 : Int) := of_decide_eq_true (by first | (with_reducible assumption) | assumption)
                      have q116 : x42_3 < (y113.length : Int) := of_decide_eq_true (by first | (with_reducible assumption) | assumption)
                      obtain ⟨ad116, e116, hx116_0, hx116_1⟩ := at_T35 (Kd.R_reads' HO_40.out).2.2 x42_3 p116 q116
                      cases e116
                      replace p116 := eq_true p116
                      replace q116 := eq_true q116
                      go_wp2_with (first | ((with_reducible refine gate_dst (N := 11) rfl ?_); refine box_event ?hg (N := 11) ?hd (cs := #[.int .i64 0, .int .i64 0]) (t := 35) ?hr ?_; (case hd => rfl); (case hg => rfl); (case hr => first | (go_simp; done) | (go_simp; rfl)); intro gb117 hg w36 hbox hb; have n0_ := Aside0.mk (Kd.R_below (by (with_reducible repeat (first | apply Kd.R_alloc | apply Kd.R_drewN | apply Kd.R_drew)); exact HO_5.out) hb); have n1_ := Aside0.mk (Kd.R_below (Kd.R_elderB (by (with_reducible repeat (first | apply Kd.R_alloc | apply Kd.R_drewN | apply Kd.R_drew)); exact HO_40.out) gb117 (Nat.le_of_eq hg.symm)) hb); have n2_ := Aside0.mk (blk_below (g := gb103) (o := .cells #[.slice A0_0 l0_0.length c0_0, .slice (some ad111) l0_1.length c0_1, .int .i64 a0_2, .int .i64 a0_3, .int .i64 a0_4, .int .i64 a0_5, .int .i64 a0_6, .int .i64 a0_7, .int .i64 a0_8, .int .i64 a0_9, .int .i64 a0_10, .int .i64 a0_11, .int .i64 a0_12] 25 (0, 0)) (by (with_reducible repeat (first | refine blk_drewN ?_ _ | refine blk_drew ?_ | refine blk_alloc ?_ _)); exact BK103.out) hb); have n3_ := Aside0.mk (blk_below (g := gb112) (o := .cells #[.int .i64 ((rd_T37 l0_1 x26_2).f0), .int .i64 ((rd_T37 l0_1 x26_2).f1), .int .i64 ((rd_T37 l0_1 x26_2).f2.f0), .int .i64 ((rd_T37 l0_1 x26_2).f2.f1), .int .i64 ((rd_T37 l0_1 x26_2).f3.f0), .int .i64 ((rd_T37 l0_1 x26_2).f3.f1)] 37 (0, 0)) (by (with_reducible repeat (first | refine blk_drewN ?_ _ | refine blk_drew ?_ | refine blk_alloc ?_ _)); exact BK112.out) hb); have n4_ := Aside0.mk (below_step (by repeat (first | (with_reducible first | exact HB.out | apply below_alloc | apply pw_below_drewN | apply below_drew1 | refine below_set ?_ GE103.out | refine below_set ?_ GE112.out) | exact HB.out)) hb); have n5_ := Aside0.mk (hbox); have n6_ := Aside0.mk ((by rw [hg]; exact (below_size (by repeat (first | (with_reducible first | exact HB.out | apply below_alloc | apply pw_below_drewN | apply below_drew1 | refine below_set ?_ GE103.out | refine below_set ?_ GE112.out) | exact HB.out))) : w.heap.size ≤ gb117)); have n7_ := Aside0.mk ((by rw [hg]; exact (below_size (by repeat (first | (with_reducible first | exact HB.out | apply below_alloc | apply pw_below_drewN | apply below_drew1 | refine below_set ?_ GE103.out | refine below_set ?_ GE112.out) | exact HB.out))) : w.heap.size ≤ gb117)); have n8_ := Aside0.mk ((by rw [hg]; exact Nat.ne_of_lt (blk_lt (g := gb103) (o := .cells #[.slice A0_0 l0_0.length c0_0, .slice (some ad111) l0_1.length c0_1, .int .i64 a0_2, .int .i64 a0_3, .int .i64 a0_4, .int .i64 a0_5, .int .i64 a0_6, .int .i64 a0_7, .int .i64 a0_8, .int .i64 a0_9, .int .i64 a0_10, .int .i64 a0_11, .int .i64 a0_12] 25 (0, 0)) (by (with_reducible repeat (first | refine blk_drewN ?_ _ | refine blk_drew ?_ | refine blk_alloc ?_ _)); exact BK103.out)) : gb103 ≠ gb117)); have n9_ := Aside0.mk ((by rw [hg]; exact Nat.ne_of_gt (blk_lt (g := gb103) (o := .cells #[.slice A0_0 l0_0.length c0_0, .slice (some ad111) l0_1.length c0_1, .int .i64 a0_2, .int .i64 a0_3, .int .i64 a0_4, .int .i64 a0_5, .int .i64 a0_6, .int .i64 a0_7, .int .i64 a0_8, .int .i64 a0_9, .int .i64 a0_10, .int .i64 a0_11, .int .i64 a0_12] 25 (0, 0)) (by (with_reducible repeat (first | refine blk_drewN ?_ _ | refine blk_drew ?_ | refine blk_alloc ?_ _)); exact BK103.out)) : gb117 ≠ gb103)); have n10_ := Aside0.mk ((by rw [hg]; exact Nat.ne_of_lt (blk_lt (g := gb112) (o := .cells #[.int .i64 ((rd_T37 l0_1 x26_2).f0), .int .i64 ((rd_T37 l0_1 x26_2).f1), .int .i64 ((rd_T37 l0_1 x26_2).f2.f0), .int .i64 ((rd_T37 l0_1 x26_2).f2.f1), .int .i64 ((rd_T37 l0_1 x26_2).f3.f0), .int .i64 ((rd_T37 l0_1 x26_2).f3.f1)] 37 (0, 0)) (by (with_reducible repeat (first | refine blk_drewN ?_ _ | refine blk_drew ?_ | refine blk_alloc ?_ _)); exact BK112.out)) : gb112 ≠ gb117)); have n11_ := Aside0.mk ((by rw [hg]; exact Nat.ne_of_gt (blk_lt (g := gb112) (o := .cells #[.int .i64 ((rd_T37 l0_1 x26_2).f0), .int .i64 ((rd_T37 l0_1 x26_2).f1), .int .i64 ((rd_T37 l0_1 x26_2).f2.f0), .int .i64 ((rd_T37 l0_1 x26_2).f2.f1), .int .i64 ((rd_T37 l0_1 x26_2).f3.f0), .int .i64 ((rd_T37 l0_1 x26_2).f3.f1)] 37 (0, 0)) (by (with_reducible repeat (first | refine blk_drewN ?_ _ | refine blk_drew ?_ | refine blk_alloc ?_ _)); exact BK112.out)) : gb117 ≠ gb112)); clear HO_5; clear HO_40; clear BK103; clear BK112; clear HB; have HO_5 := n0_; have HO_40 := n1_; have BK103 := n2_; have BK112 := n3_; have HB := n4_; have BK117 := n5_; have GW117 := n6_; have GE117 := n7_; have NB103_117 := n8_; have NB117_103 := n9_; have NB112_117 := n10_; have NB117_112 := n11_; clear n0_ n1_ n2_ n3_ n4_ n5_ n6_ n7_ n8_ n9_ n10_ n11_; clear hb hbox hg; have hnb37 := NB117_103.out; have hnc37 := NB103_117.out; have hnb38 := NB117_112.out; have hnc38 := NB112_117.out; have hcz39_0 : w36.cell? ⟨gb117, 0, none⟩ = some (.int .i64 0) := (blk_cell BK117.out 0).trans rfl; have hcz39_1 : w36.cell? ⟨gb117, 1, none⟩ = some (.int .i64 0) := (blk_cell BK117.out 1).trans rfl; have hfz39_0 := blk_frozen BK117.out 0; have hfz39_1 := blk_frozen BK117.out 1) | ((with_reducible refine gate_store (t := 35) (p := 11) rfl ?_); refine store_event (t := 35) (p := 11) (v := ?vo_w40) (w1 := ((w36.setCell ⟨gb117, 0, none⟩ (.int .i64 ((rd_T35 y113 x42_3).f0))).setCell ⟨gb117, 1, none⟩ (.int .i64 ((rd_T35 y113 x42_3).f1)))) ?hg ?ho ?hn ?hr ?_; (case ho => rfl); (case hg => rfl); (case hn => rfl); (case hr => first | (go_simp; done) | (go_simp; rfl)); intro w40 hw; have n0_ : Aside0 (Kd.R (Kd.int .i64) 3 w40 w.heap.size (fun _ => True) (.slice (some ⟨go6, 0, none⟩) x5_3.length co6) x5_3) := ⟨(by rw [hw]; exact (by (with_reducible repeat (first | apply Kd.R_alloc | apply Kd.R_drewN | apply Kd.R_drew)); exact Kd.R_mono (Kd.R_far (p := ⟨gb117, 1, none⟩) (Kd.R_far (p := ⟨gb117, 0, none⟩) (Kd.R_types HO_5.out BK117.out (by decide)) (fun _ hk => hk.2) (.int .i64 ((rd_T35 y113 x42_3).f0))) (fun _ hk => hk.2) (.int .i64 ((rd_T35 y113 x42_3).f1))) (fun _ hk => trivial)))⟩; have n1_ : Aside0 (Kd.R k35 35 w40 w.heap.size (fun k_ => k_ ≠ gb117) (.slice (some ad116) y113.length co25) y113) := ⟨(by rw [hw]; exact (by (with_reducible repeat (first | apply Kd.R_alloc | apply Kd.R_drewN | apply Kd.R_drew)); exact Kd.R_mono (Kd.R_far (p := ⟨gb117, 1, none⟩) (Kd.R_far (p := ⟨gb117, 0, none⟩) (Kd.R_mono HO_40.out (fun k_ hk => (⟨hk, hk.2⟩ : _ ∧ k_ ≠ gb117))) (fun _ hk => hk.2) (.int .i64 ((rd_T35 y113 x42_3).f0))) (fun _ hk => hk.2) (.int .i64 ((rd_T35 y113 x42_3).f1))) (fun _ hk => hk.1.2)))⟩; have n2_ : Aside0 (w40.heap[gb103]? = some (.cells #[.slice A0_0 l0_0.length c0_0, .slice (some ad111) l0_1.length c0_1, .int .i64 a0_2, .int .i64 a0_3, .int .i64 a0_4, .int .i64 a0_5, .int .i64 a0_6, .int .i64 a0_7, .int .i64 a0_8, .int .i64 a0_9, .int .i64 a0_10, .int .i64 a0_11, .int .i64 a0_12] 25 (0, 0))) := ⟨(by rw [hw]; exact (by (with_reducible repeat (first | refine blk_drewN ?_ _ | refine blk_drew ?_ | refine blk_alloc ?_ _)); refine blk_far ?_ NB103_117.out _; (with_reducible repeat (first | refine blk_drewN ?_ _ | refine blk_drew ?_ | refine blk_alloc ?_ _)); refine blk_far ?_ NB103_117.out _; (with_reducible repeat (first | refine blk_drewN ?_ _ | refine blk_drew ?_ | refine blk_alloc ?_ _)); exact BK103.out))⟩; have n3_ : Aside0 (w40.heap[gb112]? = some (.cells #[.int .i64 ((rd_T37 l0_1 x26_2).f0), .int .i64 ((rd_T37 l0_1 x26_2).f1), .int .i64 ((rd_T37 l0_1 x26_2).f2.f0), .int .i64 ((rd_T37 l0_1 x26_2).f2.f1), .int .i64 ((rd_T37 l0_1 x26_2).f3.f0), .int .i64 ((rd_T37 l0_1 x26_2).f3.f1)] 37 (0, 0))) := ⟨(by rw [hw]; exact (by (with_reducible repeat (first | refine blk_drewN ?_ _ | refine blk_drew ?_ | refine blk_alloc ?_ _)); refine blk_far ?_ NB112_117.out _; (with_reducible repeat (first | refine blk_drewN ?_ _ | refine blk_drew ?_ | refine blk_alloc ?_ _)); refine blk_far ?_ NB112_117.out _; (with_reducible repeat (first | refine blk_drewN ?_ _ | refine blk_drew ?_ | refine blk_alloc ?_ _)); exact BK112.out))⟩; have n4_ : Aside0 (w40.heap[gb117]? = some (.cells #[.int .i64 ((rd_T35 y113 x42_3).f0), .int .i64 ((rd_T35 y113 x42_3).f1)] 35 (0, 0))) := ⟨(by rw [hw]; exact (by (with_reducible repeat (first | refine blk_drewN ?_ _ | refine blk_drew ?_ | refine blk_alloc ?_ _)); refine blk_put (cs := #[.int .i64 ((rd_T35 y113 x42_3).f0), .int .i64 0]) ?_ 1 _ rfl; (with_reducible repeat (first | refine blk_drewN ?_ _ | refine blk_drew ?_ | refine blk_alloc ?_ _)); refine blk_put (cs := #[.int .i64 0, .int .i64 0]) ?_ 0 _ rfl; (with_reducible repeat (first | refine blk_drewN ?_ _ | refine blk_drew ?_ | refine blk_alloc ?_ _)); exact BK117.out))⟩; have n5_ : Aside0 (Below w.heap.size w w40) := ⟨(by rw [hw]; exact (by repeat (first | (with_reducible first | exact HB.out | apply below_alloc | apply pw_below_drewN | apply below_drew1 | refine below_set ?_ GE103.out | refine below_set ?_ GE112.out | refine below_set ?_ GE117.out) | exact HB.out)))⟩; clear hw; clear HO_5; clear HO_40; clear BK103; clear BK112; clear BK117; clear HB; have HO_5 := n0_; have HO_40 := n1_; have BK103 := n2_; have BK112 := n3_; have BK117 := n4_; have HB := n5_; clear n0_ n1_ n2_ n3_ n4_ n5_; have hcz41_0 : w40.cell? ⟨gb117, 0, none⟩ = some (.int .i64 ((rd_T35 y113 x42_3).f0)) := (blk_cell BK117.out 0).trans rfl; have hcz41_1 : w40.cell? ⟨gb117, 1, none⟩ = some (.int .i64 ((rd_T35 y113 x42_3).f1)) := (blk_cell BK117.out 1).trans rfl; have hfz41_0 := blk_frozen BK117.out 0; have hfz41_1 := blk_frozen BK117.out 1; have p118 : 0 ≤ (((rd_T35 y113 x42_3).f0) : Int) := of_decide_eq_true (by first | (with_reducible assumption) | assumption); have q118 : ((rd_T35 y113 x42_3).f0) < (x5_3.length : Int) := of_decide_eq_true (by first | (with_reducible assumption) | assumption); obtain ⟨ad118, e118, hx118_0⟩ := Kd.at_int (Kd.R_reads' HO_5.out).2.2 ((rd_T35 y113 x42_3).f0) p118 q118; obtain rfl : (⟨go6, 0, none⟩ : Addr) = ad118 := (by injection e118); (first | simp only [add_plain] at hx118_0 | simp only [add_at] at hx118_0 | simp only [Addr.add, Nat.zero_add] at hx118_0 | skip); replace p118 := eq_true p118; replace q118 := eq_true q118; have p119 : 0 ≤ (((rd_T35 y113 x42_3).f1) : Int) := of_decide_eq_true (by first | (with_reducible assumption) | assumption); have q119 : ((rd_T35 y113 x42_3).f1) < (x5_3.length : Int) := of_decide_eq_true (by first | (with_reducible assumption) | assumption); obtain ⟨ad119, e119, hx119_0⟩ := Kd.at_int (Kd.R_reads' HO_5.out).2.2 ((rd_T35 y113 x42_3).f1) p119 q119; obtain rfl : (⟨go6, 0, none⟩ : Addr) = ad119 := (by injection e119); (first | simp only [add_plain] at hx119_0 | simp only [add_at] at hx119_0 | simp only [Addr.add, Nat.zero_add] at hx119_0 | skip); replace p119 := eq_true p119; replace q119 := eq_true q119; have p35 : 0 ≤ (((rd_T35 y113 x42_3).f1) : Int) := of_decide_eq_true (by first | (with_reducible assumption) | assumption); have q35 : (((rd_T35 y113 x42_3).f1) : Int) < ((x5_3.length : Int) : Int) := of_decide_eq_true (by first | (with_reducible assumption) | assumption); obtain ⟨hx35_0, hf35_0⟩ := Kd.R_celln 0 HO_5.out (((rd_T35 y113 x42_3).f1) : Int) p35 q35; replace p35 := eq_true p35; replace q35 := eq_true q35; obtain ⟨hy42_, hz42_⟩ := Kd.R_celln 0 HO_5.out (((rd_T35 y113 x42_3).f1) : Int) (of_decide_eq_true (by first | (with_reducible assumption) | assumption)) (of_decide_eq_true (by first | (with_reducible assumption) | assumption)); have HP42 := Kd.R_putg HO_5.out (((rd_T35 y113 x42_3).f1) : Int) (wrap64 (x6_1 + 1))) | ((with_reducible refine gate_store (t := 3) (p := 66) rfl ?_); refine store_event (t := 3) (p := 66) (v := ?vo_w43) (w1 := (w40.setCell ⟨go6, (((rd_T35 y113 x42_3).f1) : Int).toNat, none⟩ (.int .i64 (wrap64 (x6_1 + 1))))) ?hg ?ho ?hn ?hr ?_; (case ho => rfl); (case hg => rfl); (case hn => rfl); (case hr => first | (go_simp; done) | (go_simp; rfl)); intro w43 hw; have hg : w40.grownBy w43 (some go6) := (by rw [hw]; exact HP42.2); have hp_ : Kd.R (Kd.int .i64) 3 w43 w.heap.size (fun _ => True) (.slice (some ⟨go6, 0, none⟩) x5_3.length co6) y120 := (by rw [hw, Ny120.out]; exact HP42.1); clear HP42; have n0_ := Aside0.mk (hp_); have n1_ := Aside0.mk (Kd.R_over' (v := (.slice (some ⟨go6, 0, none⟩) x5_3.length co6)) (by (with_reducible repeat (first | apply Kd.R_alloc | apply Kd.R_drewN | apply Kd.R_drew)); exact HO_40.out) (Kd.R_typed HO_5.out) (by decide) hg); have n2_ := Aside0.mk (blk_grown (g := gb103) (o := .cells #[.slice A0_0 l0_0.length c0_0, .slice (some ad111) l0_1.length c0_1, .int .i64 a0_2, .int .i64 a0_3, .int .i64 a0_4, .int .i64 a0_5, .int .i64 a0_6, .int .i64 a0_7, .int .i64 a0_8, .int .i64 a0_9, .int .i64 a0_10, .int .i64 a0_11, .int .i64 a0_12] 25 (0, 0)) (by (with_reducible repeat (first | refine blk_drewN ?_ _ | refine blk_drew ?_ | refine blk_alloc ?_ _)); exact BK103.out) hg (Kd.R_ne HO_5.out BK103.out (by decide))); have n3_ := Aside0.mk (blk_grown (g := gb112) (o := .cells #[.int .i64 ((rd_T37 l0_1 x26_2).f0), .int .i64 ((rd_T37 l0_1 x26_2).f1), .int .i64 ((rd_T37 l0_1 x26_2).f2.f0), .int .i64 ((rd_T37 l0_1 x26_2).f2.f1), .int .i64 ((rd_T37 l0_1 x26_2).f3.f0), .int .i64 ((rd_T37 l0_1 x26_2).f3.f1)] 37 (0, 0)) (by (with_reducible repeat (first | refine blk_drewN ?_ _ | refine blk_drew ?_ | refine blk_alloc ?_ _)); exact BK112.out) hg (Kd.R_ne HO_5.out BK112.out (by decide))); have n4_ := Aside0.mk (blk_grown (g := gb117) (o := .cells #[.int .i64 ((rd_T35 y113 x42_3).f0), .int .i64 ((rd_T35 y113 x42_3).f1)] 35 (0, 0)) (by (with_reducible repeat (first | refine blk_drewN ?_ _ | refine blk_drew ?_ | refine blk_alloc ?_ _)); exact BK117.out) hg (Kd.R_ne HO_5.out BK117.out (by decide))); have n5_ := Aside0.mk ((by rw [hw]; exact below_set (HB.out) GB6.out : Below w.heap.size w w43)); clear HO_5; clear HO_40; clear BK103; clear BK112; clear BK117; clear HB; have HO_5 := n0_; have HO_40 := n1_; have BK103 := n2_; have BK112 := n3_; have BK117 := n4_; have HB := n5_; clear n0_ n1_ n2_ n3_ n4_ n5_; clear hg hw hp_))
                      (try simp only [← hl5_3])
                      go_roundg k3
                      case measure => have := HK1.out; have := HK2.out; have := HK3.out; omega
                      case rel => exact ⟨(y120), (true), (wrap64 (x42_3 + 1)), (by first | rfl | (simp; done) | (simp [*]; done) | (have := TNA.out; unfold wrap64; congr 1; omega) | (unfold wrap64; omega)), (by first | rfl | (simp; done) | (simp [*]; done) | (have := TNA.out; unfold wrap64; congr 1; omega) | (unfold wrap64; omega)), H', ⟨by have := HK1.out; have := HK2.out; have := HK3.out; omega⟩, ⟨by (try simp only [hl5_1]); (try simp only [hl5_2]); (try simp only [hl5_3]); (with_reducible repeat (first | apply Kd.R_alloc | apply Kd.R_drewN | apply Kd.R_drew)); exact HO_5.out⟩, ⟨by (try simp only [hl5_1]); (try simp only [hl5_2]); (try simp only [hl5_3]); (with_reducible repeat (first | apply Kd.R_alloc | apply Kd.R_drewN | apply Kd.R_drew)); exact Kd.R_mono HO_40.out (fun _ hk => trivial)⟩, ⟨by (try simp only [hl5_1]); (try simp only [hl5_2]); (try simp only [hl5_3]); (with_reducible repeat (first | refine blk_drewN ?_ _ | refine blk_drew ?_ | refine blk_alloc ?_ _)); exact BK103.out⟩, ⟨by (try simp only [hl5_1]); (try simp only [hl5_2]); (try simp only [hl5_3]); (with_reducible repeat (first | refine blk_drewN ?_ _ | refine blk_drew ?_ | refine blk_alloc ?_ _)); exact BK112.out⟩, ⟨by repeat (first | (with_reducible first | exact HB.out | apply below_alloc | apply pw_below_drewN | apply below_drew1 | refine below_set ?_ GE103.out | refine below_set ?_ GE112.out | refine below_set ?_ GE117.out) | exact HB.out)⟩⟩
                     ·rw [if_neg c34] at H
                      have c34b0 : decide ((rd x5_3 ((rd_T35 y113 x42_3).f1)) < 0) = false := decide_eq_false c34
                      clear c34
                      have H' := Aside0.mk H
                      clear H
                      have p116 : 0 ≤ (x42_3 : Int) := of_decide_eq_true (by first | (with_reducible assumption) | assumption)
                      have q116 : x42_3 < (y113.length : Int) := of_decide_eq_true (by first | (with_reducible assumption) | assumption)
                      obtain ⟨ad116, e116, hx116_0, hx116_1⟩ := at_T35 (Kd.R_reads' HO_40.out).2.2 x42_3 p116 q116
                      cases e116
                      replace p116 := eq_true p116
                      replace q116 := eq_true q116
                      go_wp2_with (first | ((with_reducible refine gate_dst (N := 11) rfl ?_); refine box_event ?hg (N := 11) ?hd (cs := #[.int .i64 0, .int .i64 0]) (t := 35) ?hr ?_; (case hd => rfl); (case hg => rfl); (case hr => first | (go_simp; done) | (go_simp; rfl)); intro gb117 hg w44 hbox hb; have n0_ := Aside0.mk (Kd.R_below (by (with_reducible repeat (first | apply Kd.R_alloc | apply Kd.R_drewN | apply Kd.R_drew)); exact HO_5.out) hb); have n1_ := Aside0.mk (Kd.R_below (Kd.R_elderB (by (with_reducible repeat (first | apply Kd.R_alloc | apply Kd.R_drewN | apply Kd.R_drew)); exact HO_40.out) gb117 (Nat.le_of_eq hg.symm)) hb); have n2_ := Aside0.mk (blk_below (g := gb103) (o := .cells #[.slice A0_0 l0_0.length c0_0, .slice (some ad111) l0_1.length c0_1, .int .i64 a0_2, .int .i64 a0_3, .int .i64 a0_4, .int .i64 a0_5, .int .i64 a0_6, .int .i64 a0_7, .int .i64 a0_8, .int .i64 a0_9, .int .i64 a0_10, .int .i64 a0_11, .int .i64 a0_12] 25 (0, 0)) (by (with_reducible repeat (first | refine blk_drewN ?_ _ | refine blk_drew ?_ | refine blk_alloc ?_ _)); exact BK103.out) hb); have n3_ := Aside0.mk (blk_below (g := gb112) (o := .cells #[.int .i64 ((rd_T37 l0_1 x26_2).f0), .int .i64 ((rd_T37 l0_1 x26_2).f1), .int .i64 ((rd_T37 l0_1 x26_2).f2.f0), .int .i64 ((rd_T37 l0_1 x26_2).f2.f1), .int .i64 ((rd_T37 l0_1 x26_2).f3.f0), .int .i64 ((rd_T37 l0_1 x26_2).f3.f1)] 37 (0, 0)) (by (with_reducible repeat (first | refine blk_drewN ?_ _ | refine blk_drew ?_ | refine blk_alloc ?_ _)); exact BK112.out) hb); have n4_ := Aside0.mk (below_step (by repeat (first | (with_reducible first | exact HB.out | apply below_alloc | apply pw_below_drewN | apply below_drew1 | refine below_set ?_ GE103.out | refine below_set ?_ GE112.out) | exact HB.out)) hb); have n5_ := Aside0.mk (hbox); have n6_ := Aside0.mk ((by rw [hg]; exact (below_size (by repeat (first | (with_reducible first | exact HB.out | apply below_alloc | apply pw_below_drewN | apply below_drew1 | refine below_set ?_ GE103.out | refine below_set ?_ GE112.out) | exact HB.out))) : w.heap.size ≤ gb117)); have n7_ := Aside0.mk ((by rw [hg]; exact (below_size (by repeat (first | (with_reducible first | exact HB.out | apply below_alloc | apply pw_below_drewN | apply below_drew1 | refine below_set ?_ GE103.out | refine below_set ?_ GE112.out) | exact HB.out))) : w.heap.size ≤ gb117)); have n8_ := Aside0.mk ((by rw [hg]; exact Nat.ne_of_lt (blk_lt (g := gb103) (o := .cells #[.slice A0_0 l0_0.length c0_0, .slice (some ad111) l0_1.length c0_1, .int .i64 a0_2, .int .i64 a0_3, .int .i64 a0_4, .int .i64 a0_5, .int .i64 a0_6, .int .i64 a0_7, .int .i64 a0_8, .int .i64 a0_9, .int .i64 a0_10, .int .i64 a0_11, .int .i64 a0_12] 25 (0, 0)) (by (with_reducible repeat (first | refine blk_drewN ?_ _ | refine blk_drew ?_ | refine blk_alloc ?_ _)); exact BK103.out)) : gb103 ≠ gb117)); have n9_ := Aside0.mk ((by rw [hg]; exact Nat.ne_of_gt (blk_lt (g := gb103) (o := .cells #[.slice A0_0 l0_0.length c0_0, .slice (some ad111) l0_1.length c0_1, .int .i64 a0_2, .int .i64 a0_3, .int .i64 a0_4, .int .i64 a0_5, .int .i64 a0_6, .int .i64 a0_7, .int .i64 a0_8, .int .i64 a0_9, .int .i64 a0_10, .int .i64 a0_11, .int .i64 a0_12] 25 (0, 0)) (by (with_reducible repeat (first | refine blk_drewN ?_ _ | refine blk_drew ?_ | refine blk_alloc ?_ _)); exact BK103.out)) : gb117 ≠ gb103)); have n10_ := Aside0.mk ((by rw [hg]; exact Nat.ne_of_lt (blk_lt (g := gb112) (o := .cells #[.int .i64 ((rd_T37 l0_1 x26_2).f0), .int .i64 ((rd_T37 l0_1 x26_2).f1), .int .i64 ((rd_T37 l0_1 x26_2).f2.f0), .int .i64 ((rd_T37 l0_1 x26_2).f2.f1), .int .i64 ((rd_T37 l0_1 x26_2).f3.f0), .int .i64 ((rd_T37 l0_1 x26_2).f3.f1)] 37 (0, 0)) (by (with_reducible repeat (first | refine blk_drewN ?_ _ | refine blk_drew ?_ | refine blk_alloc ?_ _)); exact BK112.out)) : gb112 ≠ gb117)); have n11_ := Aside0.mk ((by rw [hg]; exact Nat.ne_of_gt (blk_lt (g := gb112) (o := .cells #[.int .i64 ((rd_T37 l0_1 x26_2).f0), .int .i64 ((rd_T37 l0_1 x26_2).f1), .int .i64 ((rd_T37 l0_1 x26_2).f2.f0), .int .i64 ((rd_T37 l0_1 x26_2).f2.f1), .int .i64 ((rd_T37 l0_1 x26_2).f3.f0), .int .i64 ((rd_T37 l0_1 x26_2).f3.f1)] 37 (0, 0)) (by (with_reducible repeat (first | refine blk_drewN ?_ _ | refine blk_drew ?_ | refine blk_alloc ?_ _)); exact BK112.out)) : gb117 ≠ gb112)); clear HO_5; clear HO_40; clear BK103; clear BK112; clear HB; have HO_5 := n0_; have HO_40 := n1_; have BK103 := n2_; have BK112 := n3_; have HB := n4_; have BK117 := n5_; have GW117 := n6_; have GE117 := n7_; have NB103_117 := n8_; have NB117_103 := n9_; have NB112_117 := n10_; have NB117_112 := n11_; clear n0_ n1_ n2_ n3_ n4_ n5_ n6_ n7_ n8_ n9_ n10_ n11_; clear hb hbox hg; have hnb45 := NB117_103.out; have hnc45 := NB103_117.out; have hnb46 := NB117_112.out; have hnc46 := NB112_117.out; have hcz47_0 : w44.cell? ⟨gb117, 0, none⟩ = some (.int .i64 0) := (blk_cell BK117.out 0).trans rfl; have hcz47_1 : w44.cell? ⟨gb117, 1, none⟩ = some (.int .i64 0) := (blk_cell BK117.out 1).trans rfl; have hfz47_0 := blk_frozen BK117.out 0; have hfz47_1 := blk_frozen BK117.out 1; have p118 : 0 ≤ (((rd_T35 y113 x42_3).f0) : Int) := of_decide_eq_true (by first | (with_reducible assumption) | assumption); have q118 : ((rd_T35 y113 x42_3).f0) < (x5_3.length : Int) := of_decide_eq_true (by first | (with_reducible assumption) | assumption); obtain ⟨ad118, e118, hx118_0⟩ := Kd.at_int (Kd.R_reads' HO_5.out).2.2 ((rd_T35 y113 x42_3).f0) p118 q118; obtain rfl : (⟨go6, 0, none⟩ : Addr) = ad118 := (by injection e118); (first | simp only [add_plain] at hx118_0 | simp only [add_at] at hx118_0 | simp only [Addr.add, Nat.zero_add] at hx118_0 | skip); have hn118_0 : (⟨go6, 0, none⟩ : Addr).block ≠ gb117 := Kd.own_blk (Kd.R_ne HO_5.out BK117.out (by decide)); have hn118_1 : (⟨go6, 0, none⟩ : Addr).block ≠ gb117 := Kd.own_blk (Kd.R_ne HO_5.out BK117.out (by decide)); replace hx118_0 := (cell_far (p := ⟨gb117, 0, none⟩) (by first | (rw [add_block]; exact hn118_0) | (show (Addr.add _ _).block ≠ _; rw [add_block]; exact hn118_0) | exact hn118_0) (.int .i64 ((rd_T35 y113 x42_3).f0))).trans hx118_0; replace hx118_0 := (cell_far (p := ⟨gb117, 1, none⟩) (by first | (rw [add_block]; exact hn118_1) | (show (Addr.add _ _).block ≠ _; rw [add_block]; exact hn118_1) | exact hn118_1) (.int .i64 ((rd_T35 y113 x42_3).f1))).trans hx118_0; clear hn118_0; clear hn118_1; replace p118 := eq_true p118; replace q118 := eq_true q118; have p119 : 0 ≤ (((rd_T35 y113 x42_3).f1) : Int) := of_decide_eq_true (by first | (with_reducible assumption) | assumption); have q119 : ((rd_T35 y113 x42_3).f1) < (x5_3.length : Int) := of_decide_eq_true (by first | (with_reducible assumption) | assumption); obtain ⟨ad119, e119, hx119_0⟩ := Kd.at_int (Kd.R_reads' HO_5.out).2.2 ((rd_T35 y113 x42_3).f1) p119 q119; obtain rfl : (⟨go6, 0, none⟩ : Addr) = ad119 := (by injection e119); (first | simp only [add_plain] at hx119_0 | simp only [add_at] at hx119_0 | simp only [Addr.add, Nat.zero_add] at hx119_0 | skip); have hn119_0 : (⟨go6, 0, none⟩ : Addr).block ≠ gb117 := Kd.own_blk (Kd.R_ne HO_5.out BK117.out (by decide)); have hn119_1 : (⟨go6, 0, none⟩ : Addr).block ≠ gb117 := Kd.own_blk (Kd.R_ne HO_5.out BK117.out (by decide)); replace hx119_0 := (cell_far (p := ⟨gb117, 0, none⟩) (by first | (rw [add_block]; exact hn119_0) | (show (Addr.add _ _).block ≠ _; rw [add_block]; exact hn119_0) | exact hn119_0) (.int .i64 ((rd_T35 y113 x42_3).f0))).trans hx119_0; replace hx119_0 := (cell_far (p := ⟨gb117, 1, none⟩) (by first | (rw [add_block]; exact hn119_1) | (show (Addr.add _ _).block ≠ _; rw [add_block]; exact hn119_1) | exact hn119_1) (.int .i64 ((rd_T35 y113 x42_3).f1))).trans hx119_0; clear hn119_0; clear hn119_1; replace p119 := eq_true p119; replace q119 := eq_true q119))
                      (try simp only [← hl5_3])
                      go_roundg k3
                      case measure => have := HK1.out; have := HK2.out; have := HK3.out; omega
                      case rel => exact ⟨(x5_3), (x7_3), (wrap64 (x42_3 + 1)), (by first | rfl | (simp; done) | (simp [*]; done) | (have := TNA.out; unfold wrap64; congr 1; omega) | (unfold wrap64; omega)), (by first | rfl | (simp; done) | (simp [*]; done) | (have := TNA.out; unfold wrap64; congr 1; omega) | (unfold wrap64; omega)), H', ⟨by have := HK1.out; have := HK2.out; have := HK3.out; omega⟩, ⟨by (try simp only [hl5_1]); (try simp only [hl5_2]); (try simp only [hl5_3]); (with_reducible repeat (first | apply Kd.R_alloc | apply Kd.R_drewN | apply Kd.R_drew)); exact Kd.R_mono (Kd.R_far (p := ⟨gb117, 1, none⟩) (Kd.R_far (p := ⟨gb117, 0, none⟩) (Kd.R_types HO_5.out BK117.out (by decide)) (fun _ hk => hk.2) (.int .i64 ((rd_T35 y113 x42_3).f0))) (fun _ hk => hk.2) (.int .i64 ((rd_T35 y113 x42_3).f1))) (fun _ hk => trivial)⟩, ⟨by (try simp only [hl5_1]); (try simp only [hl5_2]); (try simp only [hl5_3]); (with_reducible repeat (first | apply Kd.R_alloc | apply Kd.R_drewN | apply Kd.R_drew)); exact Kd.R_mono (Kd.R_far (p := ⟨gb117, 1, none⟩) (Kd.R_far (p := ⟨gb117, 0, none⟩) (Kd.R_mono HO_40.out (fun k_ hk => (⟨hk, hk.2⟩ : _ ∧ k_ ≠ gb117))) (fun _ hk => hk.2) (.int .i64 ((rd_T35 y113 x42_3).f0))) (fun _ hk => hk.2) (.int .i64 ((rd_T35 y113 x42_3).f1))) (fun _ hk => trivial)⟩, ⟨by (try simp only [hl5_1]); (try simp only [hl5_2]); (try simp only [hl5_3]); (with_reducible repeat (first | refine blk_drewN ?_ _ | refine blk_drew ?_ | refine blk_alloc ?_ _)); refine blk_far ?_ NB103_117.out _; (with_reducible repeat (first | refine blk_drewN ?_ _ | refine blk_drew ?_ | refine blk_alloc ?_ _)); refine blk_far ?_ NB103_117.out _; (with_reducible repeat (first | refine blk_drewN ?_ _ | refine blk_drew ?_ | refine blk_alloc ?_ _)); exact BK103.out⟩, ⟨by (try simp only [hl5_1]); (try simp only [hl5_2]); (try simp only [hl5_3]); (with_reducible repeat (first | refine blk_drewN ?_ _ | refine blk_drew ?_ | refine blk_alloc ?_ _)); refine blk_far ?_ NB112_117.out _; (with_reducible repeat (first | refine blk_drewN ?_ _ | refine blk_drew ?_ | refine blk_alloc ?_ _)); refine blk_far ?_ NB112_117.out _; (with_reducible repeat (first | refine blk_drewN ?_ _ | refine blk_drew ?_ | refine blk_alloc ?_ _)); exact BK112.out⟩, ⟨by repeat (first | (with_reducible first | exact HB.out | apply below_alloc | apply pw_below_drewN | apply below_drew1 | refine below_set ?_ GE103.out | refine below_set ?_ GE112.out | refine below_set ?_ GE117.out) | exact HB.out)⟩⟩
                    ·rw [if_neg c33] at H
                     exact absurd H (by simp)
                   ·rw [if_neg c32] at H
                    exact absurd H (by simp)
                  ·rw [if_neg c31] at H
                   have c31b0 : ((rd x5_3 ((rd_T35 y113 x42_3).f0)) == x6_1) = false := beq_eq_false_iff_ne.mpr c31
                   have c31b1 : ((rd x5_3 ((rd_T35 y113 x42_3).f0)) != x6_1) = true := bne_iff_ne.mpr c31
                   have H' := Aside0.mk H
                   clear H
                   have p116 : 0 ≤ (x42_3 : Int) := of_decide_eq_true (by first | (with_reducible assumption) | assumption)
                   have q116 : x42_3 < (y113.length : Int) := of_decide_eq_true (by first | (with_reducible assumption) | assumption)
                   obtain ⟨ad116, e116, hx116_0, hx116_1⟩ := at_T35 (Kd.R_reads' HO_40.out).2.2 x42_3 p116 q116
                   cases e116
                   replace p116 := eq_true p116
                   replace q116 := eq_true q116
                   go_wp2_with (first | ((with_reducible refine gate_dst (N := 11) rfl ?_); refine box_event ?hg (N := 11) ?hd (cs := #[.int .i64 0, .int .i64 0]) (t := 35) ?hr ?_; (case hd => rfl); (case hg => rfl); (case hr => first | (go_simp; done) | (go_simp; rfl)); intro gb117 hg w48 hbox hb; have n0_ := Aside0.mk (Kd.R_below (by (with_reducible repeat (first | apply Kd.R_alloc | apply Kd.R_drewN | apply Kd.R_drew)); exact HO_5.out) hb); have n1_ := Aside0.mk (Kd.R_below (Kd.R_elderB (by (with_reducible repeat (first | apply Kd.R_alloc | apply Kd.R_drewN | apply Kd.R_drew)); exact HO_40.out) gb117 (Nat.le_of_eq hg.symm)) hb); have n2_ := Aside0.mk (blk_below (g := gb103) (o := .cells #[.slice A0_0 l0_0.length c0_0, .slice (some ad111) l0_1.length c0_1, .int .i64 a0_2, .int .i64 a0_3, .int .i64 a0_4, .int .i64 a0_5, .int .i64 a0_6, .int .i64 a0_7, .int .i64 a0_8, .int .i64 a0_9, .int .i64 a0_10, .int .i64 a0_11, .int .i64 a0_12] 25 (0, 0)) (by (with_reducible repeat (first | refine blk_drewN ?_ _ | refine blk_drew ?_ | refine blk_alloc ?_ _)); exact BK103.out) hb); have n3_ := Aside0.mk (blk_below (g := gb112) (o := .cells #[.int .i64 ((rd_T37 l0_1 x26_2).f0), .int .i64 ((rd_T37 l0_1 x26_2).f1), .int .i64 ((rd_T37 l0_1 x26_2).f2.f0), .int .i64 ((rd_T37 l0_1 x26_2).f2.f1), .int .i64 ((rd_T37 l0_1 x26_2).f3.f0), .int .i64 ((rd_T37 l0_1 x26_2).f3.f1)] 37 (0, 0)) (by (with_reducible repeat (first | refine blk_drewN ?_ _ | refine blk_drew ?_ | refine blk_alloc ?_ _)); exact BK112.out) hb); have n4_ := Aside0.mk (below_step (by repeat (first | (with_reducible first | exact HB.out | apply below_alloc | apply pw_below_drewN | apply below_drew1 | refine below_set ?_ GE103.out | refine below_set ?_ GE112.out) | exact HB.out)) hb); have n5_ := Aside0.mk (hbox); have n6_ := Aside0.mk ((by rw [hg]; exact (below_size (by repeat (first | (with_reducible first | exact HB.out | apply below_alloc | apply pw_below_drewN | apply below_drew1 | refine below_set ?_ GE103.out | refine below_set ?_ GE112.out) | exact HB.out))) : w.heap.size ≤ gb117)); have n7_ := Aside0.mk ((by rw [hg]; exact (below_size (by repeat (first | (with_reducible first | exact HB.out | apply below_alloc | apply pw_below_drewN | apply below_drew1 | refine below_set ?_ GE103.out | refine below_set ?_ GE112.out) | exact HB.out))) : w.heap.size ≤ gb117)); have n8_ := Aside0.mk ((by rw [hg]; exact Nat.ne_of_lt (blk_lt (g := gb103) (o := .cells #[.slice A0_0 l0_0.length c0_0, .slice (some ad111) l0_1.length c0_1, .int .i64 a0_2, .int .i64 a0_3, .int .i64 a0_4, .int .i64 a0_5, .int .i64 a0_6, .int .i64 a0_7, .int .i64 a0_8, .int .i64 a0_9, .int .i64 a0_10, .int .i64 a0_11, .int .i64 a0_12] 25 (0, 0)) (by (with_reducible repeat (first | refine blk_drewN ?_ _ | refine blk_drew ?_ | refine blk_alloc ?_ _)); exact BK103.out)) : gb103 ≠ gb117)); have n9_ := Aside0.mk ((by rw [hg]; exact Nat.ne_of_gt (blk_lt (g := gb103) (o := .cells #[.slice A0_0 l0_0.length c0_0, .slice (some ad111) l0_1.length c0_1, .int .i64 a0_2, .int .i64 a0_3, .int .i64 a0_4, .int .i64 a0_5, .int .i64 a0_6, .int .i64 a0_7, .int .i64 a0_8, .int .i64 a0_9, .int .i64 a0_10, .int .i64 a0_11, .int .i64 a0_12] 25 (0, 0)) (by (with_reducible repeat (first | refine blk_drewN ?_ _ | refine blk_drew ?_ | refine blk_alloc ?_ _)); exact BK103.out)) : gb117 ≠ gb103)); have n10_ := Aside0.mk ((by rw [hg]; exact Nat.ne_of_lt (blk_lt (g := gb112) (o := .cells #[.int .i64 ((rd_T37 l0_1 x26_2).f0), .int .i64 ((rd_T37 l0_1 x26_2).f1), .int .i64 ((rd_T37 l0_1 x26_2).f2.f0), .int .i64 ((rd_T37 l0_1 x26_2).f2.f1), .int .i64 ((rd_T37 l0_1 x26_2).f3.f0), .int .i64 ((rd_T37 l0_1 x26_2).f3.f1)] 37 (0, 0)) (by (with_reducible repeat (first | refine blk_drewN ?_ _ | refine blk_drew ?_ | refine blk_alloc ?_ _)); exact BK112.out)) : gb112 ≠ gb117)); have n11_ := Aside0.mk ((by rw [hg]; exact Nat.ne_of_gt (blk_lt (g := gb112) (o := .cells #[.int .i64 ((rd_T37 l0_1 x26_2).f0), .int .i64 ((rd_T37 l0_1 x26_2).f1), .int .i64 ((rd_T37 l0_1 x26_2).f2.f0), .int .i64 ((rd_T37 l0_1 x26_2).f2.f1), .int .i64 ((rd_T37 l0_1 x26_2).f3.f0), .int .i64 ((rd_T37 l0_1 x26_2).f3.f1)] 37 (0, 0)) (by (with_reducible repeat (first | refine blk_drewN ?_ _ | refine blk_drew ?_ | refine blk_alloc ?_ _)); exact BK112.out)) : gb117 ≠ gb112)); clear HO_5; clear HO_40; clear BK103; clear BK112; clear HB; have HO_5 := n0_; have HO_40 := n1_; have BK103 := n2_; have BK112 := n3_; have HB := n4_; have BK117 := n5_; have GW117 := n6_; have GE117 := n7_; have NB103_117 := n8_; have NB117_103 := n9_; have NB112_117 := n10_; have NB117_112 := n11_; clear n0_ n1_ n2_ n3_ n4_ n5_ n6_ n7_ n8_ n9_ n10_ n11_; clear hb hbox hg; have hnb49 := NB117_103.out; have hnc49 := NB103_117.out; have hnb50 := NB117_112.out; have hnc50 := NB112_117.out; have hcz51_0 : w48.cell? ⟨gb117, 0, none⟩ = some (.int .i64 0) := (blk_cell BK117.out 0).trans rfl; have hcz51_1 : w48.cell? ⟨gb117, 1, none⟩ = some (.int .i64 0) := (blk_cell BK117.out 1).trans rfl; have hfz51_0 := blk_frozen BK117.out 0; have hfz51_1 := blk_frozen BK117.out 1; have p118 : 0 ≤ (((rd_T35 y113 x42_3).f0) : Int) := of_decide_eq_true (by first | (with_reducible assumption) | assumption); have q118 : ((rd_T35 y113 x42_3).f0) < (x5_3.length : Int) := of_decide_eq_true (by first | (with_reducible assumption) | assumption); obtain ⟨ad118, e118, hx118_0⟩ := Kd.at_int (Kd.R_reads' HO_5.out).2.2 ((rd_T35 y113 x42_3).f0) p118 q118; obtain rfl : (⟨go6, 0, none⟩ : Addr) = ad118 := (by injection e118); (first | simp only [add_plain] at hx118_0 | simp only [add_at] at hx118_0 | simp only [Addr.add, Nat.zero_add] at hx118_0 | skip); have hn118_0 : (⟨go6, 0, none⟩ : Addr).block ≠ gb117 := Kd.own_blk (Kd.R_ne HO_5.out BK117.out (by decide)); have hn118_1 : (⟨go6, 0, none⟩ : Addr).block ≠ gb117 := Kd.own_blk (Kd.R_ne HO_5.out BK117.out (by decide)); replace hx118_0 := (cell_far (p := ⟨gb117, 0, none⟩) (by first | (rw [add_block]; exact hn118_0) | (show (Addr.add _ _).block ≠ _; rw [add_block]; exact hn118_0) | exact hn118_0) (.int .i64 ((rd_T35 y113 x42_3).f0))).trans hx118_0; replace hx118_0 := (cell_far (p := ⟨gb117, 1, none⟩) (by first | (rw [add_block]; exact hn118_1) | (show (Addr.add _ _).block ≠ _; rw [add_block]; exact hn118_1) | exact hn118_1) (.int .i64 ((rd_T35 y113 x42_3).f1))).trans hx118_0; clear hn118_0; clear hn118_1; replace p118 := eq_true p118; replace q118 := eq_true q118))
                   (try simp only [← hl5_3])
                   go_roundg k3
                   case measure => have := HK1.out; have := HK2.out; have := HK3.out; omega
                   case rel => exact ⟨(x5_3), (x7_3), (wrap64 (x42_3 + 1)), (by first | rfl | (simp; done) | (simp [*]; done) | (have := TNA.out; unfold wrap64; congr 1; omega) | (unfold wrap64; omega)), (by first | rfl | (simp; done) | (simp [*]; done) | (have := TNA.out; unfold wrap64; congr 1; omega) | (unfold wrap64; omega)), H', ⟨by have := HK1.out; have := HK2.out; have := HK3.out; omega⟩, ⟨by (try simp only [hl5_1]); (try simp only [hl5_2]); (try simp only [hl5_3]); (with_reducible repeat (first | apply Kd.R_alloc | apply Kd.R_drewN | apply Kd.R_drew)); exact Kd.R_mono (Kd.R_far (p := ⟨gb117, 1, none⟩) (Kd.R_far (p := ⟨gb117, 0, none⟩) (Kd.R_types HO_5.out BK117.out (by decide)) (fun _ hk => hk.2) (.int .i64 ((rd_T35 y113 x42_3).f0))) (fun _ hk => hk.2) (.int .i64 ((rd_T35 y113 x42_3).f1))) (fun _ hk => trivial)⟩, ⟨by (try simp only [hl5_1]); (try simp only [hl5_2]); (try simp only [hl5_3]); (with_reducible repeat (first | apply Kd.R_alloc | apply Kd.R_drewN | apply Kd.R_drew)); exact Kd.R_mono (Kd.R_far (p := ⟨gb117, 1, none⟩) (Kd.R_far (p := ⟨gb117, 0, none⟩) (Kd.R_mono HO_40.out (fun k_ hk => (⟨hk, hk.2⟩ : _ ∧ k_ ≠ gb117))) (fun _ hk => hk.2) (.int .i64 ((rd_T35 y113 x42_3).f0))) (fun _ hk => hk.2) (.int .i64 ((rd_T35 y113 x42_3).f1))) (fun _ hk => trivial)⟩, ⟨by (try simp only [hl5_1]); (try simp only [hl5_2]); (try simp only [hl5_3]); (with_reducible repeat (first | refine blk_drewN ?_ _ | refine blk_drew ?_ | refine blk_alloc ?_ _)); refine blk_far ?_ NB103_117.out _; (with_reducible repeat (first | refine blk_drewN ?_ _ | refine blk_drew ?_ | refine blk_alloc ?_ _)); refine blk_far ?_ NB103_117.out _; (with_reducible repeat (first | refine blk_drewN ?_ _ | refine blk_drew ?_ | refine blk_alloc ?_ _)); exact BK103.out⟩, ⟨by (try simp only [hl5_1]); (try simp only [hl5_2]); (try simp only [hl5_3]); (with_reducible repeat (first | refine blk_drewN ?_ _ | refine blk_drew ?_ | refine blk_alloc ?_ _)); refine blk_far ?_ NB112_117.out _; (with_reducible repeat (first | refine blk_drewN ?_ _ | refine blk_drew ?_ | refine blk_alloc ?_ _)); refine blk_far ?_ NB112_117.out _; (with_reducible repeat (first | refine blk_drewN ?_ _ | refine blk_drew ?_ | refine blk_alloc ?_ _)); exact BK112.out⟩, ⟨by repeat (first | (with_reducible first | exact HB.out | apply below_alloc | apply pw_below_drewN | apply below_drew1 | refine below_set ?_ GE103.out | refine below_set ?_ GE112.out | refine below_set ?_ GE117.out) | exact HB.out)⟩⟩
                 ·rw [if_neg c30] at H
                  exact absurd H (by simp)
                ·rw [if_neg c29] at H
                 exact absurd H (by simp)
               ·rw [if_neg c28] at H
                exact absurd H (by simp)
              ·rw [if_neg c27] at H
               exact absurd H (by simp)
             ·rw [if_neg c26] at H
              have c26b0 : decide (x42_3 < (y113.length : Int)) = false := decide_eq_false c26
              clear c26
              have H' := Aside0.mk H
              clear H
              go_wp2
              (try simp only [← hl5_2, ← hl5_3])
              go_roundg k3
              case measure => have := HK1.out; have := HK2.out; have := HK3.out; omega
              case rel => exact ⟨(x5_3), (x7_3), (wrap64 (x26_2 + 1)), (by first | rfl | (simp; done) | (simp [*]; done) | (have := TNA.out; unfold wrap64; congr 1; omega) | (unfold wrap64; omega)), (by first | rfl | (simp; done) | (simp [*]; done) | (have := TNA.out; unfold wrap64; congr 1; omega) | (unfold wrap64; omega)), H', ⟨by have := HK1.out; have := HK2.out; have := HK3.out; omega⟩, ⟨by (try simp only [hl5_1]); (try simp only [hl5_2]); (try simp only [hl5_3]); (with_reducible repeat (first | apply Kd.R_alloc | apply Kd.R_drewN | apply Kd.R_drew)); exact HO_5.out⟩, ⟨by (try simp only [hl5_1]); (try simp only [hl5_2]); (try simp only [hl5_3]); (with_reducible repeat (first | refine blk_drewN ?_ _ | refine blk_drew ?_ | refine blk_alloc ?_ _)); exact BK103.out⟩, ⟨by repeat (first | (with_reducible first | exact HB.out | apply below_alloc | apply pw_below_drewN | apply below_drew1 | refine below_set ?_ GE103.out | refine below_set ?_ GE112.out) | exact HB.out)⟩⟩
          ·rw [if_neg c19] at H
           exact absurd H (by simp)
         ·rw [if_neg c18] at H
          exact absurd H (by simp)
        ·rw [if_neg c17] at H
         have c17b0 : decide (x26_2 < (l0_1.length : Int)) = false := decide_eq_false c17
         clear c17
         have H' := Aside0.mk H
         clear H
         go_wp2
         (try simp only [← hl5_1, ← hl5_2])
         go_roundg k2
         case measure => have := HK1.out; have := HK2.out; omega
         case rel => exact ⟨(x5_2), (wrap64 (x6_1 + 1)), (x7_2), (by first | rfl | (simp; done) | (simp [*]; done) | (have := TNA.out; unfold wrap64; congr 1; omega) | (unfold wrap64; omega)), (by first | rfl | (simp; done) | (simp [*]; done) | (have := TNA.out; unfold wrap64; congr 1; omega) | (unfold wrap64; omega)), H', ⟨by have := HK1.out; have := HK2.out; omega⟩, ⟨by (try simp only [hl5_1]); (try simp only [hl5_2]); (with_reducible repeat (first | apply Kd.R_alloc | apply Kd.R_drewN | apply Kd.R_drew)); exact HO_5.out⟩, ⟨by (try simp only [hl5_1]); (try simp only [hl5_2]); (with_reducible repeat (first | refine blk_drewN ?_ _ | refine blk_drew ?_ | refine blk_alloc ?_ _)); exact BK103.out⟩, ⟨by repeat (first | (with_reducible first | exact HB.out | apply below_alloc | apply pw_below_drewN | apply below_drew1 | refine below_set ?_ GE103.out) | exact HB.out)⟩⟩
     ·replace c15 := Bool.eq_false_iff.mpr c15
      subst c15
      have H1 : (some x5_1) = some r := by rw [if_neg (show ¬ (false = true) by decide)] at H; exact H
      clear H
      have H := H1
      clear H1
      obtain rfl := Option.some.inj H
      go_wp2
      go_ret
      exact ⟨_, by first | rfl | (simp [errW_none, errW_some] <;> rfl) | (simp [*, errW_none, errW_some] <;> rfl), by (with_reducible repeat (first | apply Kd.R_alloc | apply Kd.R_drewN | apply Kd.R_drew)); exact HO_5.out, by repeat (first | (with_reducible first | exact HB.out | apply below_alloc | apply pw_below_drewN | apply below_drew1 | refine below_set ?_ GE103.out) | exact HB.out)⟩
  ·rw [if_neg c5] at H
   exact absurd H (by simp)
 ·rw [if_neg c4] at H
  exact absurd H (by simp)
def plan_end.f (a0_0 : Int) (a0_1 : Int) (a0_2 : Int) (a0_3 : Int) (a0_4 : Int) (a0_5 : Int) (a1 : Int) : Option (Int × Int × Int) := if a1 = 0 then (some (a0_0, a0_2, a0_3)) else (some (a0_1, a0_4, a0_5))
set_option maxHeartbeats 8000000 in
set_option maxRecDepth 100000 in
theorem plan_end.calls (a0_0 : Int) (a0_1 : Int) (a0_2 : Int) (a0_3 : Int) (a0_4 : Int) (a0_5 : Int) (a1 : Int) (r1 : Int) (r2 : Int) (r3 : Int) (w : World) (h : plan_end.f a0_0 a0_1 a0_2 a0_3 a0_4 a0_5 a1 = some (r1, r2, r3)) :
  Calls Tryd.prog 92 #[.agg #[.int .i64 a0_0, .int .i64 a0_1, .int .i64 a0_2, .int .i64 a0_3, .int .i64 a0_4, .int .i64 a0_5], .int .i64 a1] w fun e w' => e = .returned (.tuple #[.int .i64 r1, .agg #[.int .i64 r2, .int .i64 r3]]) ∧ Below w.heap.size w w' := by
 have hu37 := Tryd.underlying37
 have hu35 := Tryd.underlying35
 have HB := Aside0.mk (Below.refl w.heap.size w)
 have H : (if a1 = 0 then (some (a0_0, a0_2, a0_3)) else (some (a0_1, a0_4, a0_5))) = some (r1, r2, r3) := h
 clear h
 by_cases c3 : a1 = 0
 ·rw [if_pos c3] at H
  have c3b0 : (a1 == 0) = true := beq_iff_eq.mpr c3
  have c3b1 : (a1 != 0) = false := bne_eq_false_iff_eq.mpr c3
  clear c3
  simp only [Option.some.injEq, Prod.mk.injEq] at H
  obtain ⟨rfl, rfl, rfl⟩ := H
  go_enter Tryd.func92, Tryd.ntmps92
  try go_wp2_with (first | ((with_reducible refine gate_dst (N := 2) rfl ?_); refine box_event ?hg (N := 2) ?hd (cs := #[.int .i64 a0_0, .int .i64 a0_1, .int .i64 a0_2, .int .i64 a0_3, .int .i64 a0_4, .int .i64 a0_5]) (t := 37) ?hr ?_; (case hd => rfl); (case hg => rfl); (case hr => first | (go_simp; done) | (go_simp; rfl)); intro gb122 hg w4 hbox hb; have n0_ := Aside0.mk (below_step (by repeat (first | (with_reducible first | exact HB.out | apply below_alloc | apply pw_below_drewN | apply below_drew1) | exact HB.out)) hb); have n1_ := Aside0.mk (hbox); have n2_ := Aside0.mk ((by rw [hg]; exact (below_size (by repeat (first | (with_reducible first | exact HB.out | apply below_alloc | apply pw_below_drewN | apply below_drew1) | exact HB.out))) : w.heap.size ≤ gb122)); have n3_ := Aside0.mk ((by rw [hg]; exact (below_size (by repeat (first | (with_reducible first | exact HB.out | apply below_alloc | apply pw_below_drewN | apply below_drew1) | exact HB.out))) : w.heap.size ≤ gb122)); clear HB; have HB := n0_; have BK122 := n1_; have GW122 := n2_; have GE122 := n3_; clear n0_ n1_ n2_ n3_; clear hb hbox hg) | ((with_reducible refine gate_dst (N := 5) rfl ?_); refine box_event ?hg (N := 5) ?hd (cs := #[.int .i64 0, .int .i64 0]) (t := 35) ?hr ?_; (case hd => rfl); (case hg => rfl); (case hr => first | (go_simp; done) | (go_simp; rfl)); intro gb123 hg w5 hbox hb; have n0_ := Aside0.mk (blk_below (g := gb122) (o := .cells #[.int .i64 a0_0, .int .i64 a0_1, .int .i64 a0_2, .int .i64 a0_3, .int .i64 a0_4, .int .i64 a0_5] 37 (0, 0)) (by (with_reducible repeat (first | refine blk_drewN ?_ _ | refine blk_drew ?_ | refine blk_alloc ?_ _)); exact BK122.out) hb); have n1_ := Aside0.mk (below_step (by repeat (first | (with_reducible first | exact HB.out | apply below_alloc | apply pw_below_drewN | apply below_drew1 | refine below_set ?_ GE122.out) | exact HB.out)) hb); have n2_ := Aside0.mk (hbox); have n3_ := Aside0.mk ((by rw [hg]; exact (below_size (by repeat (first | (with_reducible first | exact HB.out | apply below_alloc | apply pw_below_drewN | apply below_drew1 | refine below_set ?_ GE122.out) | exact HB.out))) : w.heap.size ≤ gb123)); have n4_ := Aside0.mk ((by rw [hg]; exact (below_size (by repeat (first | (with_reducible first | exact HB.out | apply below_alloc | apply pw_below_drewN | apply below_drew1 | refine below_set ?_ GE122.out) | exact HB.out))) : w.heap.size ≤ gb123)); have n5_ := Aside0.mk ((by rw [hg]; exact Nat.ne_of_lt (blk_lt (g := gb122) (o := .cells #[.int .i64 a0_0, .int .i64 a0_1, .int .i64 a0_2, .int .i64 a0_3, .int .i64 a0_4, .int .i64 a0_5] 37 (0, 0)) (by (with_reducible repeat (first | refine blk_drewN ?_ _ | refine blk_drew ?_ | refine blk_alloc ?_ _)); exact BK122.out)) : gb122 ≠ gb123)); have n6_ := Aside0.mk ((by rw [hg]; exact Nat.ne_of_gt (blk_lt (g := gb122) (o := .cells #[.int .i64 a0_0, .int .i64 a0_1, .int .i64 a0_2, .int .i64 a0_3, .int .i64 a0_4, .int .i64 a0_5] 37 (0, 0)) (by (with_reducible repeat (first | refine blk_drewN ?_ _ | refine blk_drew ?_ | refine blk_alloc ?_ _)); exact BK122.out)) : gb123 ≠ gb122)); clear BK122; clear HB; have BK122 := n0_; have HB := n1_; have BK123 := n2_; have GW123 := n3_; have GE123 := n4_; have NB122_123 := n5_; have NB123_122 := n6_; clear n0_ n1_ n2_ n3_ n4_ n5_ n6_; clear hb hbox hg))
  have n0_ := Aside0.mk (blk_drew BK122.out)
  have n1_ := Aside0.mk (blk_drew BK123.out)
  have n2_ := Aside0.mk (below_drew1 HB.out)
  clear BK122
  clear BK123
  clear HB
  have BK122 := n0_
  have BK123 := n1_
  have HB := n2_
  clear n0_ n1_ n2_
  refine start_ (n := 6) (S := fun w' => w'.cell? ⟨gb122, 0, none⟩ = some (.int .i64 a0_0) ∧ w'.cell? ⟨gb122, 1, none⟩ = some (.int .i64 a0_1) ∧ w'.cell? ⟨gb122, 2, none⟩ = some (.int .i64 a0_2) ∧ w'.cell? ⟨gb122, 3, none⟩ = some (.int .i64 a0_3) ∧ w'.cell? ⟨gb122, 4, none⟩ = some (.int .i64 a0_4) ∧ w'.cell? ⟨gb122, 5, none⟩ = some (.int .i64 a0_5)) (ds := []) #[false, false, false, false, false, false] (by kernel_rfl) rfl rfl ⟨(blk_cell BK122.out 0).trans rfl, (blk_cell BK122.out 1).trans rfl, (blk_cell BK122.out 2).trans rfl, (blk_cell BK122.out 3).trans rfl, (blk_cell BK122.out 4).trans rfl, (blk_cell BK122.out 5).trans rfl⟩ (fun hHeld => ?_)
  generalize w5.drew = w6 at BK122 BK123 HB hHeld ⊢
  refine pure_ (i := 0) (N := some 8) (v := ?_) (a' := ?_) #[true, false, false, false, false, false] rfl rfl (by kernel_rfl) (fun _ _ _ h => h) (Or.inl ⟨by rfl, ?_⟩) ?_ ?_
  rotate_left
  ·intro w'
   go_simp
   with_reducible rfl
  rotate_left
  ·simp only [Act.put, sAa, sBb, sCc, i64_w, i32_w]
   rfl
  refine pure_ (i := 2) (N := some 10) (v := ?_) (a' := ?_) #[true, false, true, false, false, false] rfl rfl (by kernel_rfl) (fun _ _ _ h => h) (Or.inl ⟨by rfl, ?_⟩) ?_ ?_
  rotate_left
  ·intro w'
   go_simp
   with_reducible rfl
  rotate_left
  ·simp only [Act.put, sAa, sBb, sCc, i64_w, i32_w]
   rfl
  refine take_ (i := 1) (N := some 9) (v := ?_) (a' := ?_) #[true, true, true, false, false, false] rfl rfl (by kernel_rfl) (fun _ _ _ h => h) (Or.inl ⟨by rfl, ?_⟩) hHeld ?_ ?_
  rotate_left
  ·rintro w' ⟨s0, s1, s2, s3, s4, s5⟩
   go_simp
   with_reducible rfl
  rotate_left
  ·simp only [Act.put, sAa, sBb, sCc, i64_w, i32_w]
   rfl
  refine pure_ (i := 4) (N := some 4) (v := ?_) (a' := ?_) #[true, true, true, false, true, false] rfl rfl (by kernel_rfl) (fun _ _ _ h => h) (Or.inl ⟨by rfl, ?_⟩) ?_ ?_
  rotate_left
  ·intro w'
   go_simp
   with_reducible rfl
  rotate_left
  ·simp only [Act.put, sAa, sBb, sCc, i64_w, i32_w]
   rfl
  refine take_ (i := 3) (N := some 11) (v := ?_) (a' := ?_) #[true, true, true, true, true, false] rfl rfl (by kernel_rfl) (fun _ _ _ h => h) (Or.inl ⟨by rfl, ?_⟩) hHeld ?_ ?_
  rotate_left
  ·rintro w' ⟨s0, s1, s2, s3, s4, s5⟩
   go_simp
   with_reducible rfl
  rotate_left
  ·simp only [Act.put, sAa, sBb, sCc, i64_w, i32_w]
   rfl
  refine one_ (i := 5) (N := none) #[true, true, true, true, true, true] rfl rfl (by kernel_rfl) (by decide) (fun K hK => ?_)
  have hs7 : w6.cell? ⟨gb123, 0, none⟩ = some (.int .i64 0) := (blk_cell BK123.out 0).trans rfl
  have hfs7 := blk_frozen BK123.out 0
  have hns7_0 := NB122_123.out
  have hms7_0 := NB123_122.out
  have hs8 : w6.cell? ⟨gb123, 1, none⟩ = some (.int .i64 0) := (blk_cell BK123.out 1).trans rfl
  have hfs8 := blk_frozen BK123.out 1
  have hns8_0 := NB122_123.out
  have hms8_0 := NB123_122.out
  refine skip_ (w1 := ?_) (by rfl) rfl ?_ ?_
  rotate_left
  ·go_simp
   rfl
  refine hK.out _ _ ⟨((cell_far (p := ⟨gb123, _, none⟩) NB122_123.out _).trans (((cell_far (p := ⟨gb123, _, none⟩) NB122_123.out _).trans (hHeld.1)))), ((cell_far (p := ⟨gb123, _, none⟩) NB122_123.out _).trans (((cell_far (p := ⟨gb123, _, none⟩) NB122_123.out _).trans (hHeld.2.1)))), ((cell_far (p := ⟨gb123, _, none⟩) NB122_123.out _).trans (((cell_far (p := ⟨gb123, _, none⟩) NB122_123.out _).trans (hHeld.2.2.1)))), ((cell_far (p := ⟨gb123, _, none⟩) NB122_123.out _).trans (((cell_far (p := ⟨gb123, _, none⟩) NB122_123.out _).trans (hHeld.2.2.2.1)))), ((cell_far (p := ⟨gb123, _, none⟩) NB122_123.out _).trans (((cell_far (p := ⟨gb123, _, none⟩) NB122_123.out _).trans (hHeld.2.2.2.2.1)))), ((cell_far (p := ⟨gb123, _, none⟩) NB122_123.out _).trans (((cell_far (p := ⟨gb123, _, none⟩) NB122_123.out _).trans (hHeld.2.2.2.2.2))))⟩ (fun hHeld => ?_)
  clear hK K
  refine done_ (by kernel_rfl) ?_
  try go_wp2
  refine bodyPost_ret (results_tc rfl _ _ gb123 35 #[.int .i64 a0_2, .int .i64 a0_3] (0, 0) _ rfl (by (with_reducible repeat (first | refine blk_drewN ?_ _ | refine blk_drew ?_ | refine blk_alloc ?_ _)); refine blk_put (cs := #[.int .i64 a0_2, .int .i64 0]) ?_ 1 _ rfl; (with_reducible repeat (first | refine blk_drewN ?_ _ | refine blk_drew ?_ | refine blk_alloc ?_ _)); refine blk_put (cs := #[.int .i64 0, .int .i64 0]) ?_ 0 _ rfl; (with_reducible repeat (first | refine blk_drewN ?_ _ | refine blk_drew ?_ | refine blk_alloc ?_ _)); exact BK123.out) Tryd.underlying35 rfl (by kernel_rfl)) rfl ?_
  exact ⟨by first | rfl | (simp [errW_none, errW_some] <;> rfl) | (simp [*, errW_none, errW_some] <;> rfl), by repeat (first | (with_reducible first | exact HB.out | apply below_alloc | apply pw_below_drewN | apply below_drew1 | refine below_set ?_ GE122.out | refine below_set ?_ GE123.out) | exact HB.out)⟩
 ·rw [if_neg c3] at H
  have c3b0 : (a1 == 0) = false := beq_eq_false_iff_ne.mpr c3
  have c3b1 : (a1 != 0) = true := bne_iff_ne.mpr c3
  simp only [Option.some.injEq, Prod.mk.injEq] at H
  obtain ⟨rfl, rfl, rfl⟩ := H
  go_enter Tryd.func92, Tryd.ntmps92
  try go_wp2_with (first | ((with_reducible refine gate_dst (N := 2) rfl ?_); refine box_event ?hg (N := 2) ?hd (cs := #[.int .i64 a0_0, .int .i64 a0_1, .int .i64 a0_2, .int .i64 a0_3, .int .i64 a0_4, .int .i64 a0_5]) (t := 37) ?hr ?_; (case hd => rfl); (case hg => rfl); (case hr => first | (go_simp; done) | (go_simp; rfl)); intro gb122 hg w9 hbox hb; have n0_ := Aside0.mk (below_step (by repeat (first | (with_reducible first | exact HB.out | apply below_alloc | apply pw_below_drewN | apply below_drew1) | exact HB.out)) hb); have n1_ := Aside0.mk (hbox); have n2_ := Aside0.mk ((by rw [hg]; exact (below_size (by repeat (first | (with_reducible first | exact HB.out | apply below_alloc | apply pw_below_drewN | apply below_drew1) | exact HB.out))) : w.heap.size ≤ gb122)); have n3_ := Aside0.mk ((by rw [hg]; exact (below_size (by repeat (first | (with_reducible first | exact HB.out | apply below_alloc | apply pw_below_drewN | apply below_drew1) | exact HB.out))) : w.heap.size ≤ gb122)); clear HB; have HB := n0_; have BK122 := n1_; have GW122 := n2_; have GE122 := n3_; clear n0_ n1_ n2_ n3_; clear hb hbox hg) | ((with_reducible refine gate_dst (N := 5) rfl ?_); refine box_event ?hg (N := 5) ?hd (cs := #[.int .i64 0, .int .i64 0]) (t := 35) ?hr ?_; (case hd => rfl); (case hg => rfl); (case hr => first | (go_simp; done) | (go_simp; rfl)); intro gb123 hg w10 hbox hb; have n0_ := Aside0.mk (blk_below (g := gb122) (o := .cells #[.int .i64 a0_0, .int .i64 a0_1, .int .i64 a0_2, .int .i64 a0_3, .int .i64 a0_4, .int .i64 a0_5] 37 (0, 0)) (by (with_reducible repeat (first | refine blk_drewN ?_ _ | refine blk_drew ?_ | refine blk_alloc ?_ _)); exact BK122.out) hb); have n1_ := Aside0.mk (below_step (by repeat (first | (with_reducible first | exact HB.out | apply below_alloc | apply pw_below_drewN | apply below_drew1 | refine below_set ?_ GE122.out) | exact HB.out)) hb); have n2_ := Aside0.mk (hbox); have n3_ := Aside0.mk ((by rw [hg]; exact (below_size (by repeat (first | (with_reducible first | exact HB.out | apply below_alloc | apply pw_below_drewN | apply below_drew1 | refine below_set ?_ GE122.out) | exact HB.out))) : w.heap.size ≤ gb123)); have n4_ := Aside0.mk ((by rw [hg]; exact (below_size (by repeat (first | (with_reducible first | exact HB.out | apply below_alloc | apply pw_below_drewN | apply below_drew1 | refine below_set ?_ GE122.out) | exact HB.out))) : w.heap.size ≤ gb123)); have n5_ := Aside0.mk ((by rw [hg]; exact Nat.ne_of_lt (blk_lt (g := gb122) (o := .cells #[.int .i64 a0_0, .int .i64 a0_1, .int .i64 a0_2, .int .i64 a0_3, .int .i64 a0_4, .int .i64 a0_5] 37 (0, 0)) (by (with_reducible repeat (first | refine blk_drewN ?_ _ | refine blk_drew ?_ | refine blk_alloc ?_ _)); exact BK122.out)) : gb122 ≠ gb123)); have n6_ := Aside0.mk ((by rw [hg]; exact Nat.ne_of_gt (blk_lt (g := gb122) (o := .cells #[.int .i64 a0_0, .int .i64 a0_1, .int .i64 a0_2, .int .i64 a0_3, .int .i64 a0_4, .int .i64 a0_5] 37 (0, 0)) (by (with_reducible repeat (first | refine blk_drewN ?_ _ | refine blk_drew ?_ | refine blk_alloc ?_ _)); exact BK122.out)) : gb123 ≠ gb122)); clear BK122; clear HB; have BK122 := n0_; have HB := n1_; have BK123 := n2_; have GW123 := n3_; have GE123 := n4_; have NB122_123 := n5_; have NB123_122 := n6_; clear n0_ n1_ n2_ n3_ n4_ n5_ n6_; clear hb hbox hg))
  have n0_ := Aside0.mk (blk_drew BK122.out)
  have n1_ := Aside0.mk (blk_drew BK123.out)
  have n2_ := Aside0.mk (below_drew1 HB.out)
  clear BK122
  clear BK123
  clear HB
  have BK122 := n0_
  have BK123 := n1_
  have HB := n2_
  clear n0_ n1_ n2_
  refine start_ (n := 6) (S := fun w' => w'.cell? ⟨gb122, 0, none⟩ = some (.int .i64 a0_0) ∧ w'.cell? ⟨gb122, 1, none⟩ = some (.int .i64 a0_1) ∧ w'.cell? ⟨gb122, 2, none⟩ = some (.int .i64 a0_2) ∧ w'.cell? ⟨gb122, 3, none⟩ = some (.int .i64 a0_3) ∧ w'.cell? ⟨gb122, 4, none⟩ = some (.int .i64 a0_4) ∧ w'.cell? ⟨gb122, 5, none⟩ = some (.int .i64 a0_5)) (ds := []) #[false, false, false, false, false, false] (by kernel_rfl) rfl rfl ⟨(blk_cell BK122.out 0).trans rfl, (blk_cell BK122.out 1).trans rfl, (blk_cell BK122.out 2).trans rfl, (blk_cell BK122.out 3).trans rfl, (blk_cell BK122.out 4).trans rfl, (blk_cell BK122.out 5).trans rfl⟩ (fun hHeld => ?_)
  generalize w10.drew = w11 at BK122 BK123 HB hHeld ⊢
  refine pure_ (i := 0) (N := some 12) (v := ?_) (a' := ?_) #[true, false, false, false, false, false] rfl rfl (by kernel_rfl) (fun _ _ _ h => h) (Or.inl ⟨by rfl, ?_⟩) ?_ ?_
  rotate_left
  ·intro w'
   go_simp
   with_reducible rfl
  rotate_left
  ·simp only [Act.put, sAa, sBb, sCc, i64_w, i32_w]
   rfl
  refine pure_ (i := 2) (N := some 14) (v := ?_) (a' := ?_) #[true, false, true, false, false, false] rfl rfl (by kernel_rfl) (fun _ _ _ h => h) (Or.inl ⟨by rfl, ?_⟩) ?_ ?_
  rotate_left
  ·intro w'
   go_simp
   with_reducible rfl
  rotate_left
  ·simp only [Act.put, sAa, sBb, sCc, i64_w, i32_w]
   rfl
  refine take_ (i := 1) (N := some 13) (v := ?_) (a' := ?_) #[true, true, true, false, false, false] rfl rfl (by kernel_rfl) (fun _ _ _ h => h) (Or.inl ⟨by rfl, ?_⟩) hHeld ?_ ?_
  rotate_left
  ·rintro w' ⟨s0, s1, s2, s3, s4, s5⟩
   go_simp
   with_reducible rfl
  rotate_left
  ·simp only [Act.put, sAa, sBb, sCc, i64_w, i32_w]
   rfl
  refine pure_ (i := 4) (N := some 4) (v := ?_) (a' := ?_) #[true, true, true, false, true, false] rfl rfl (by kernel_rfl) (fun _ _ _ h => h) (Or.inl ⟨by rfl, ?_⟩) ?_ ?_
  rotate_left
  ·intro w'
   go_simp
   with_reducible rfl
  rotate_left
  ·simp only [Act.put, sAa, sBb, sCc, i64_w, i32_w]
   rfl
  refine take_ (i := 3) (N := some 15) (v := ?_) (a' := ?_) #[true, true, true, true, true, false] rfl rfl (by kernel_rfl) (fun _ _ _ h => h) (Or.inl ⟨by rfl, ?_⟩) hHeld ?_ ?_
  rotate_left
  ·rintro w' ⟨s0, s1, s2, s3, s4, s5⟩
   go_simp
   with_reducible rfl
  rotate_left
  ·simp only [Act.put, sAa, sBb, sCc, i64_w, i32_w]
   rfl
  refine one_ (i := 5) (N := none) #[true, true, true, true, true, true] rfl rfl (by kernel_rfl) (by decide) (fun K hK => ?_)
  have hs12 : w11.cell? ⟨gb123, 0, none⟩ = some (.int .i64 0) := (blk_cell BK123.out 0).trans rfl
  have hfs12 := blk_frozen BK123.out 0
  have hns12_0 := NB122_123.out
  have hms12_0 := NB123_122.out
  have hs13 : w11.cell? ⟨gb123, 1, none⟩ = some (.int .i64 0) := (blk_cell BK123.out 1).trans rfl
  have hfs13 := blk_frozen BK123.out 1
  have hns13_0 := NB122_123.out
  have hms13_0 := NB123_122.out
  refine skip_ (w1 := ?_) (by rfl) rfl ?_ ?_
  rotate_left
  ·go_simp
   rfl
  refine hK.out _ _ ⟨((cell_far (p := ⟨gb123, _, none⟩) NB122_123.out _).trans (((cell_far (p := ⟨gb123, _, none⟩) NB122_123.out _).trans (hHeld.1)))), ((cell_far (p := ⟨gb123, _, none⟩) NB122_123.out _).trans (((cell_far (p := ⟨gb123, _, none⟩) NB122_123.out _).trans (hHeld.2.1)))), ((cell_far (p := ⟨gb123, _, none⟩) NB122_123.out _).trans (((cell_far (p := ⟨gb123, _, none⟩) NB122_123.out _).trans (hHeld.2.2.1)))), ((cell_far (p := ⟨gb123, _, none⟩) NB122_123.out _).trans (((cell_far (p := ⟨gb123, _, none⟩) NB122_123.out _).trans (hHeld.2.2.2.1)))), ((cell_far (p := ⟨gb123, _, none⟩) NB122_123.out _).trans (((cell_far (p := ⟨gb123, _, none⟩) NB122_123.out _).trans (hHeld.2.2.2.2.1)))), ((cell_far (p := ⟨gb123, _, none⟩) NB122_123.out _).trans (((cell_far (p := ⟨gb123, _, none⟩) NB122_123.out _).trans (hHeld.2.2.2.2.2))))⟩ (fun hHeld => ?_)
  clear hK K
  refine done_ (by kernel_rfl) ?_
  try go_wp2
  refine bodyPost_ret (results_tc rfl _ _ gb123 35 #[.int .i64 a0_4, .int .i64 a0_5] (0, 0) _ rfl (by (with_reducible repeat (first | refine blk_drewN ?_ _ | refine blk_drew ?_ | refine blk_alloc ?_ _)); refine blk_put (cs := #[.int .i64 a0_4, .int .i64 0]) ?_ 1 _ rfl; (with_reducible repeat (first | refine blk_drewN ?_ _ | refine blk_drew ?_ | refine blk_alloc ?_ _)); refine blk_put (cs := #[.int .i64 0, .int .i64 0]) ?_ 0 _ rfl; (with_reducible repeat (first | refine blk_drewN ?_ _ | refine blk_drew ?_ | refine blk_alloc ?_ _)); exact BK123.out) Tryd.underlying35 rfl (by kernel_rfl)) rfl ?_
  exact ⟨by first | rfl | (simp [errW_none, errW_some] <;> rfl) | (simp [*, errW_none, errW_some] <;> rfl), by repeat (first | (with_reducible first | exact HB.out | apply below_alloc | apply pw_below_drewN | apply below_drew1 | refine below_set ?_ GE122.out | refine below_set ?_ GE123.out) | exact HB.out)⟩
def plan_index.f (a0 : Int) (a1 : Int) : Option (Bool) := if a0 ≥ 0 then (some (decide (a0 < a1))) else (some false)
set_option maxHeartbeats 8000000 in
set_option maxRecDepth 100000 in
theorem plan_index.calls (a0 : Int) (a1 : Int) (r : Bool) (w : World) (h : plan_index.f a0 a1 = some r) :
  Calls Tryd.prog 86 #[.int .i64 a0, .int .i64 a1] w fun e w' => e = .returned (.bool r) ∧ Drawn0 w w' := by
 have H : (if a0 ≥ 0 then (some (decide (a0 < a1))) else (some false)) = some r := h
 clear h
 by_cases c3 : a0 ≥ 0
 ·rw [if_pos c3] at H
  have c3b0 : decide (0 ≤ a0) = true := decide_eq_true c3
  clear c3
  obtain rfl := Option.some.inj H
  go_enter Tryd.func86, Tryd.ntmps86
  go_wp2
  go_ret
  exact ⟨by first | rfl | (simp; done) | (simp [*]; done), by repeat (first | exact Drawn0.refl _ | apply Drawn0.step)⟩
 ·rw [if_neg c3] at H
  have c3b0 : decide (0 ≤ a0) = false := decide_eq_false c3
  clear c3
  obtain rfl := Option.some.inj H
  go_enter Tryd.func86, Tryd.ntmps86
  go_wp2
  go_ret
  exact ⟨by first | rfl | (simp; done) | (simp [*]; done), by repeat (first | exact Drawn0.refl _ | apply Drawn0.step)⟩
end Go.Proofs.YtkhlndhleiaokaaDoor.MHo
set_option linter.unusedVariables false
set_option linter.unusedSimpArgs false
namespace Go.Proofs.YtkhlndhleiaokaaDoor.MHo
open Go.RowKit Go.Proofs.YtkhlndhleiaokaaDoorW.PrintWords Go.Proofs.YtkhlndhleiaokaaDoorW.PrintLast Go.Proofs.YtkhlndhleiaokaaDoorW.PrintMore
theorem entersT {f : Nat} {fn : Func} {c : Code} (hf : Tryd.prog.funcs[f]? = some fn) (hn : (fn.name == "runtime.NumGoroutine") = false) (hb : fn.body = some c) (args : Array Value) (w : World) : (callFunc f args).run Tryd.prog w = .ok (.enter f args) w := by
 have hne : ¬ (fn.name = "runtime.NumGoroutine") := fun e => by rw [e] at hn; exact absurd hn (by decide)
 simp [callFunc, hf, hne, hb, mark]
abbrev val37 (x : S37) : Value := .agg #[.int .i64 x.f0, .int .i64 x.f1, .int .i64 x.f2.f0, .int .i64 x.f2.f1, .int .i64 x.f3.f0, .int .i64 x.f3.f1]
def PredB (g : Nat) (lb : Array Value) (p : S37 → Bool) (w : World) : Prop :=
 ∀ (W : World) (x : S37), Below w.heap.size w W → Calls Tryd.prog g (#[val37 x] ++ lb) W fun e w' => e = .returned (.bool (p x)) ∧ Below W.heap.size W w'
def findI (p : S37 → Bool) (l : List S37) : Int := match l.findIdx? p with | some i => (i : Int) | none => -1
theorem findI_hit {p : S37 → Bool} {l : List S37} {i : Nat} (hi : i < l.length) (hp : p (rd_T37 l i) = true) (hb : ∀ j : Nat, j < i → p (rd_T37 l j) = false) : findI p l = i := by
 have : l.findIdx? p = some i := by
  rw [List.findIdx?_eq_some_iff_getElem]
  refine ⟨hi, by simpa [rd_T37, List.getD_eq_getElem?_getD, hi] using hp, fun j hj => ?_⟩
  have := hb j hj
  have hjl : j < l.length := by omega
  simpa [rd_T37, List.getD_eq_getElem?_getD, hjl] using this
 unfold findI
 rw [this]
theorem findI_miss {p : S37 → Bool} {l : List S37} (hb : ∀ j : Nat, j < l.length → p (rd_T37 l j) = false) : findI p l = -1 := by
 have : l.findIdx? p = none := by
  rw [List.findIdx?_eq_none_iff]
  intro x hx
  obtain ⟨j, hj, rfl⟩ := List.mem_iff_getElem.1 hx
  have := hb j hj
  simpa [rd_T37, List.getD_eq_getElem?_getD, hj] using this
 unfold findI
 rw [this]
theorem findI_any (p : S37 → Bool) (l : List S37) : decide (0 ≤ findI p l) = l.any p := by
 unfold findI
 cases h : l.findIdx? p with
 | none =>
  rw [List.findIdx?_eq_none_iff] at h
  simp only [show decide ((0 : Int) ≤ -1) = false by decide]
  symm
  rw [List.any_eq_false]
  intro x hx
  simp [h x hx]
 | some i =>
  rw [List.findIdx?_eq_some_iff_getElem] at h
  obtain ⟨hi, hp, _⟩ := h
  simp only [show decide ((0 : Int) ≤ (i : Int)) = true from decide_eq_true (by omega)]
  symm
  rw [List.any_eq_true]
  exact ⟨_, List.getElem_mem hi, hp⟩
set_option maxHeartbeats 1000000 in
set_option maxRecDepth 4000 in
theorem indexFunc (p : S37 → Bool) (g : Nat) (lb : Array Value) (eg : ∀ args w, (callFunc g args).run Tryd.prog w = .ok (.enter g args) w) (A0 : Option Addr) (c0 : Nat) (l : List S37) (w : World)
  (hr : Kd.C k37 w A0 l.length l) (hl : l.length ≤ 1000000) (hp : PredB g lb p w) :
  Calls Tryd.prog 51 #[.slice A0 l.length c0, .func (.func g) #[] lb] w fun e w' => e = .returned (.int .i64 (findI p l)) ∧ Below w.heap.size w w' := by
 have HR := Aside0.mk hr
 have HP := Aside0.mk hp
 clear hr hp
 go_enter Tryd.func51, Tryd.ntmps51
 go_wp2_with fail
 go_loopg [5, 8] (l.length + 1) (fun kq _ v8 w' => ∃ i : Int, v8 = .int .i64 i ∧ Aside0 (kq + i = l.length + 1 ∧ 0 ≤ i) ∧ Aside0 (Below w.heap.size w w') ∧ Aside0 (∀ j : Nat, (j : Int) < i → p (rd_T37 l j) = false))
 case atStart => exact ⟨0, rfl, ⟨by omega⟩, ⟨Below.refl _ _⟩, ⟨fun j hj => absurd hj (by omega)⟩⟩
 case round =>
  obtain ⟨i, rfl, HK, HB, HN⟩ := hrel
  by_cases hi : i < (l.length : Int)
  ·have h0 := HK.out.2
   obtain ⟨ad, e, x0, x1, x2, x3, x4, x5⟩ := at_T37 (Kd.C_below HR.out HB.out) i h0 hi
   cases e
   have hcall := HP.out wr (rd_T37 l i) HB.out
   have hlt : decide (i < (l.length : Int)) = true := decide_eq_true hi
   have hpx : Aside0 (p (rd_T37 l i) = p (rd_T37 l i)) := ⟨rfl⟩
   have Hrd : Aside0 (∃ x, rd_T37 l i = x) := ⟨_, rfl⟩
   obtain ⟨x, hx⟩ := Hrd.out
   rw [hx] at x0 x1 x2 x3 x4 x5 hcall
   have HX := Aside0.mk hx
   clear Hrd hpx hx
   have p0 := eq_true h0
   have p1 := eq_true hi
   have hw1 : wrap64 (i + 1) = i + 1 := by unfold wrap64; omega
   cases gk with
   | zero => exact absurd HK.out (by omega)
   | succ k1 =>
   cases hq : p x with
   | true =>
    rw [hq] at hcall
    go_wp2_with fail
    refine hcall.mono ?_
    rintro e w' ⟨rfl, hb'⟩
    have HB' := Aside0.mk hb'
    clear hb'
    go_wp2_with fail
    go_ret
    refine ⟨?_, below_step HB.out HB'.out⟩
    have e1 : i = (i.toNat : Int) := by omega
    rw [findI_hit (i := i.toNat) (by omega) (by rw [← e1, HX.out]; exact hq) (fun j hj => HN.out j (by omega)), ← e1]
    rfl
   | false =>
    rw [hq] at hcall
    go_wp2_with fail
    refine hcall.mono ?_
    rintro e w' ⟨rfl, hb'⟩
    have HB' := Aside0.mk hb'
    clear hb'
    go_wp2_with fail
    go_roundg k1
    case measure => have := HK.out; omega
    case rel =>
     refine ⟨i + 1, rfl, ⟨by have := HK.out; omega⟩, ⟨below_step HB.out HB'.out⟩, ⟨fun j hj => ?_⟩⟩
     by_cases e : (j : Int) = i
     ·rw [e, HX.out]; exact hq
     ·exact HN.out j (by omega)
  ·have hlt : decide (i < (l.length : Int)) = false := decide_eq_false hi
   go_wp2_with fail
   go_ret
   refine ⟨?_, HB.out⟩
   rw [findI_miss (fun j hj => HN.out j (by omega))]
   rfl
set_option maxHeartbeats 1000000 in
theorem containsFunc (p : S37 → Bool) (g : Nat) (lb : Array Value) (eg : ∀ args w, (callFunc g args).run Tryd.prog w = .ok (.enter g args) w) (A0 : Option Addr) (c0 : Nat) (l : List S37) (w : World)
  (hr : Kd.C k37 w A0 l.length l) (hl : l.length ≤ 1000000) (hp : PredB g lb p w) :
  Calls Tryd.prog 87 #[.slice A0 l.length c0, .func (.func g) #[] lb] w fun e w' => e = .returned (.bool (l.any p)) ∧ Below w.heap.size w w' := by
 have hi := indexFunc p g lb eg A0 c0 l w hr hl hp
 rw [← findI_any]
 generalize findI p l = r at hi ⊢
 clear hr hl hp eg
 go_enter Tryd.func87, Tryd.ntmps87
 go_wp2_with fail
 refine hi.mono ?_
 rintro e w1 ⟨rfl, hb⟩
 have HB := Aside0.mk hb
 clear hb
 go_wp2_with fail
 go_ret
 exact ⟨rfl, HB.out⟩
def takes (part node : Int) (x : S37) : Bool := (x.f0 == part && (x.f2.f0 == node || x.f2.f1 == node)) || (x.f1 == part && (x.f3.f0 == node || x.f3.f1 == node))
set_option maxHeartbeats 4000000 in
set_option maxRecDepth 4000 in
theorem takes_walk (part node : Int) (b1 b2 : Nat) (x : S37) (w : World) (h1 : w.cell? ⟨b1, 0, none⟩ = some (.int .i64 part)) (h2 : w.cell? ⟨b2, 0, none⟩ = some (.int .i64 node)) (l1 : b1 < w.heap.size) (l2 : b2 < w.heap.size) :
  Calls Tryd.prog 94 #[val37 x, .pointer (some ⟨b1, 0, none⟩), .pointer (some ⟨b2, 0, none⟩)] w fun e w' => e = .returned (.bool (takes part node x)) ∧ Below w.heap.size w w' := by
 obtain ⟨a, b, ⟨p0, p1⟩, ⟨q0, q1⟩⟩ := x
 obtain ⟨s0, hs0⟩ : ∃ s, s = (a == part && (p0 == node || p1 == node)) := ⟨_, rfl⟩
 obtain ⟨s1, hs1⟩ : ∃ s, s = (b == part && (q0 == node || q1 == node)) := ⟨_, rfl⟩
 have HT : takes part node ⟨a, b, ⟨p0, p1⟩, ⟨q0, q1⟩⟩ = (s0 || s1) := by rw [hs0, hs1]; rfl
 rw [HT]
 clear HT
 have HS0 := Aside0.mk hs0
 have HS1 := Aside0.mk hs1
 have H1 := Aside0.mk h1
 have H2 := Aside0.mk h2
 have L1 := Aside0.mk l1
 have L2 := Aside0.mk l2
 clear hs0 hs1 h1 h2 l1 l2
 go_enter Tryd.func94, Tryd.ntmps94
 go_wp2_with fail
 have HO : Aside0 ((w.alloc (.cells #[.int .i64 a, .int .i64 b, .int .i64 p0, .int .i64 p1, .int .i64 q0, .int .i64 q1] 37)).heap[w.heap.size]? = some (.cells #[.int .i64 a, .int .i64 b, .int .i64 p0, .int .i64 p1, .int .i64 q0, .int .i64 q1] 37)) := ⟨heap_alloc_new _ _⟩
 have HB := Aside0.mk (below_alloc (Below.refl w.heap.size w) (Obj.cells #[.int .i64 a, .int .i64 b, .int .i64 p0, .int .i64 p1, .int .i64 q0, .int .i64 q1] 37))
 generalize w.alloc (Obj.cells #[.int .i64 a, .int .i64 b, .int .i64 p0, .int .i64 p1, .int .i64 q0, .int .i64 q1] 37) = wa at *
 have HX : Aside0 (w.heap.size = w.heap.size) := ⟨rfl⟩
 obtain ⟨bx, hbx⟩ : ∃ bx, bx = w.heap.size := ⟨_, rfl⟩
 rw [← hbx]
 rw [← hbx] at HO
 have HBX := Aside0.mk hbx
 clear hbx HX
 go_loopg [5, 6, 7, 8] 3 (fun kq _ _ _ v8 w' => ∃ k : Nat, v8 = .int .i64 k ∧ Aside0 (kq + k = 3) ∧ Aside0 (k ≤ 2) ∧ Aside0 (Below w.heap.size w w') ∧ Aside0 (w'.heap[bx]? = some (.cells #[.int .i64 a, .int .i64 b, .int .i64 p0, .int .i64 p1, .int .i64 q0, .int .i64 q1] 37)) ∧ Aside0 ((1 ≤ k → s0 = false) ∧ (2 ≤ k → s1 = false)))
 case atStart => exact ⟨0, rfl, ⟨by omega⟩, ⟨by omega⟩, HB, HO, ⟨fun h => absurd h (by omega), fun h => absurd h (by omega)⟩⟩
 case round =>
  obtain ⟨k, rfl, HK, HK2, HB', HO', HF⟩ := hrel
  have x0 : wr.cell? ⟨bx, 0, none⟩ = some (.int .i64 a) := (blk_cell HO'.out 0).trans rfl
  have x1 : wr.cell? ⟨bx, 1, none⟩ = some (.int .i64 b) := (blk_cell HO'.out 1).trans rfl
  have x2 : wr.cell? ⟨bx, 2, none⟩ = some (.int .i64 p0) := (blk_cell HO'.out 2).trans rfl
  have x3 : wr.cell? ⟨bx, 3, none⟩ = some (.int .i64 p1) := (blk_cell HO'.out 3).trans rfl
  have x4 : wr.cell? ⟨bx, 4, none⟩ = some (.int .i64 q0) := (blk_cell HO'.out 4).trans rfl
  have x5 : wr.cell? ⟨bx, 5, none⟩ = some (.int .i64 q1) := (blk_cell HO'.out 5).trans rfl
  have y1 : wr.cell? ⟨b1, 0, none⟩ = some (.int .i64 part) := (HB'.out.cell (p := ⟨b1, 0, none⟩) L1.out).trans H1.out
  have y2 : wr.cell? ⟨b2, 0, none⟩ = some (.int .i64 node) := (HB'.out.cell (p := ⟨b2, 0, none⟩) L2.out).trans H2.out
  have HLx := Aside0.mk (blk_lt HO'.out)
  have HL1 := Aside0.mk (Nat.lt_of_lt_of_le L1.out HB'.out.size)
  have HL2 := Aside0.mk (Nat.lt_of_lt_of_le L2.out HB'.out.size)
  cases gk with
  | zero => exact absurd HK.out (by have := HK2.out; omega)
  | succ k1 =>
  rcases (show k = 0 ∨ k = 1 ∨ k = 2 from by have := HK2.out; omega) with e | e | e
  ·subst e
   cases ha : (a == part) with
   | false =>
    go_wp2_with fail
    refine (plan_end.calls a b p0 p1 q0 q1 0 a p0 p1 _ rfl).mono ?_
    rintro e w1 ⟨rfl, hb⟩
    have z1 : w1.cell? ⟨b1, 0, none⟩ = some (.int .i64 part) := (hb.cell (p := ⟨b1, 0, none⟩) HL1.out).trans y1
    have z2 : w1.cell? ⟨b2, 0, none⟩ = some (.int .i64 node) := (hb.cell (p := ⟨b2, 0, none⟩) HL2.out).trans y2
    have zO := Aside0.mk ((hb.block bx HLx.out).trans HO'.out)
    have HB1 := Aside0.mk (below_step HB'.out hb)
    have hn1 : w1.heap.size ≠ b1 := by have := HL1.out; have := hb.size; omega
    have hn2 : w1.heap.size ≠ b2 := by have := HL2.out; have := hb.size; omega
    have hm1 : b1 ≠ w1.heap.size := Ne.symm hn1
    have hm2 : b2 ≠ w1.heap.size := Ne.symm hn2
    have LL1 : b1 < w1.heap.size := by have := HL1.out; have := hb.size; omega
    have LL2 : b2 < w1.heap.size := by have := HL2.out; have := hb.size; omega
    have LLx := Aside0.mk (show bx < w1.heap.size by have := HLx.out; have := hb.size; omega)
    clear hb x0 x1 x2 x3 x4 x5 y1 y2
    go_wp2_with fail
    go_roundg k1
    case measure => have := HK.out; omega
    case rel => exact ⟨1, rfl, ⟨by have := HK.out; omega⟩, ⟨by omega⟩, ⟨by repeat (first | exact HB1.out | apply below_alloc | refine Below.setCell ?_ HB1.out.size _)⟩, ⟨((below_alloc (Below.refl w1.heap.size w1) _).block bx LLx.out).trans zO.out⟩, ⟨fun _ => by rw [HS0.out, ha]; rfl, fun h => absurd h (by omega)⟩⟩
   | true =>
    cases hp0 : (p0 == node) with
    | true =>
     go_wp2_with fail
     refine (plan_end.calls a b p0 p1 q0 q1 0 a p0 p1 _ rfl).mono ?_
     rintro e w1 ⟨rfl, hb⟩
     have z1 : w1.cell? ⟨b1, 0, none⟩ = some (.int .i64 part) := (hb.cell (p := ⟨b1, 0, none⟩) HL1.out).trans y1
     have z2 : w1.cell? ⟨b2, 0, none⟩ = some (.int .i64 node) := (hb.cell (p := ⟨b2, 0, none⟩) HL2.out).trans y2
     have zO := Aside0.mk ((hb.block bx HLx.out).trans HO'.out)
     have HB1 := Aside0.mk (below_step HB'.out hb)
     have hn1 : w1.heap.size ≠ b1 := by have := HL1.out; have := hb.size; omega
     have hn2 : w1.heap.size ≠ b2 := by have := HL2.out; have := hb.size; omega
     have hm1 : b1 ≠ w1.heap.size := Ne.symm hn1
     have hm2 : b2 ≠ w1.heap.size := Ne.symm hn2
     have LL1 : b1 < w1.heap.size := by have := HL1.out; have := hb.size; omega
     have LL2 : b2 < w1.heap.size := by have := HL2.out; have := hb.size; omega
     have LLx := Aside0.mk (show bx < w1.heap.size by have := HLx.out; have := hb.size; omega)
     clear hb x0 x1 x2 x3 x4 x5 y1 y2
     go_wp2_with fail
     go_ret
     rw [show s0 = true by rw [HS0.out]; simp only [ha, hp0, Bool.true_or]; rfl]
     exact ⟨rfl, by repeat (first | exact HB1.out | apply below_alloc | refine Below.setCell ?_ HB1.out.size _)⟩
    | false =>
     cases hp1 : (p1 == node) with
     | true =>
      go_wp2_with fail
      refine (plan_end.calls a b p0 p1 q0 q1 0 a p0 p1 _ rfl).mono ?_
      rintro e w1 ⟨rfl, hb⟩
      have z1 : w1.cell? ⟨b1, 0, none⟩ = some (.int .i64 part) := (hb.cell (p := ⟨b1, 0, none⟩) HL1.out).trans y1
      have z2 : w1.cell? ⟨b2, 0, none⟩ = some (.int .i64 node) := (hb.cell (p := ⟨b2, 0, none⟩) HL2.out).trans y2
      have zO := Aside0.mk ((hb.block bx HLx.out).trans HO'.out)
      have HB1 := Aside0.mk (below_step HB'.out hb)
      have hn1 : w1.heap.size ≠ b1 := by have := HL1.out; have := hb.size; omega
      have hn2 : w1.heap.size ≠ b2 := by have := HL2.out; have := hb.size; omega
      have hm1 : b1 ≠ w1.heap.size := Ne.symm hn1
      have hm2 : b2 ≠ w1.heap.size := Ne.symm hn2
      have LL1 : b1 < w1.heap.size := by have := HL1.out; have := hb.size; omega
      have LL2 : b2 < w1.heap.size := by have := HL2.out; have := hb.size; omega
      have LLx := Aside0.mk (show bx < w1.heap.size by have := HLx.out; have := hb.size; omega)
      clear hb x0 x1 x2 x3 x4 x5 y1 y2
      go_wp2_with fail
      go_ret
      rw [show s0 = true by rw [HS0.out]; simp only [ha, hp0, hp1]; rfl]
      exact ⟨rfl, by repeat (first | exact HB1.out | apply below_alloc | refine Below.setCell ?_ HB1.out.size _)⟩
     | false =>
      go_wp2_with fail
      refine (plan_end.calls a b p0 p1 q0 q1 0 a p0 p1 _ rfl).mono ?_
      rintro e w1 ⟨rfl, hb⟩
      have z1 : w1.cell? ⟨b1, 0, none⟩ = some (.int .i64 part) := (hb.cell (p := ⟨b1, 0, none⟩) HL1.out).trans y1
      have z2 : w1.cell? ⟨b2, 0, none⟩ = some (.int .i64 node) := (hb.cell (p := ⟨b2, 0, none⟩) HL2.out).trans y2
      have zO := Aside0.mk ((hb.block bx HLx.out).trans HO'.out)
      have HB1 := Aside0.mk (below_step HB'.out hb)
      have hn1 : w1.heap.size ≠ b1 := by have := HL1.out; have := hb.size; omega
      have hn2 : w1.heap.size ≠ b2 := by have := HL2.out; have := hb.size; omega
      have hm1 : b1 ≠ w1.heap.size := Ne.symm hn1
      have hm2 : b2 ≠ w1.heap.size := Ne.symm hn2
      have LL1 : b1 < w1.heap.size := by have := HL1.out; have := hb.size; omega
      have LL2 : b2 < w1.heap.size := by have := HL2.out; have := hb.size; omega
      have LLx := Aside0.mk (show bx < w1.heap.size by have := HLx.out; have := hb.size; omega)
      clear hb x0 x1 x2 x3 x4 x5 y1 y2
      go_wp2_with fail
      go_roundg k1
      case measure => have := HK.out; omega
      case rel => exact ⟨1, rfl, ⟨by have := HK.out; omega⟩, ⟨by omega⟩, ⟨by repeat (first | exact HB1.out | apply below_alloc | refine Below.setCell ?_ HB1.out.size _)⟩, ⟨((below_alloc (Below.refl w1.heap.size w1) _).block bx LLx.out).trans zO.out⟩, ⟨fun _ => by rw [HS0.out]; simp only [ha, hp0, hp1]; rfl, fun h => absurd h (by omega)⟩⟩
  ·subst e
   cases hb : (b == part) with
   | false =>
    go_wp2_with fail
    refine (plan_end.calls a b p0 p1 q0 q1 1 b q0 q1 _ rfl).mono ?_
    rintro e w1 ⟨rfl, hb⟩
    have z1 : w1.cell? ⟨b1, 0, none⟩ = some (.int .i64 part) := (hb.cell (p := ⟨b1, 0, none⟩) HL1.out).trans y1
    have z2 : w1.cell? ⟨b2, 0, none⟩ = some (.int .i64 node) := (hb.cell (p := ⟨b2, 0, none⟩) HL2.out).trans y2
    have zO := Aside0.mk ((hb.block bx HLx.out).trans HO'.out)
    have HB1 := Aside0.mk (below_step HB'.out hb)
    have hn1 : w1.heap.size ≠ b1 := by have := HL1.out; have := hb.size; omega
    have hn2 : w1.heap.size ≠ b2 := by have := HL2.out; have := hb.size; omega
    have hm1 : b1 ≠ w1.heap.size := Ne.symm hn1
    have hm2 : b2 ≠ w1.heap.size := Ne.symm hn2
    have LL1 : b1 < w1.heap.size := by have := HL1.out; have := hb.size; omega
    have LL2 : b2 < w1.heap.size := by have := HL2.out; have := hb.size; omega
    have LLx := Aside0.mk (show bx < w1.heap.size by have := HLx.out; have := hb.size; omega)
    clear hb x0 x1 x2 x3 x4 x5 y1 y2
    go_wp2_with fail
    go_roundg k1
    case measure => have := HK.out; omega
    case rel => exact ⟨2, rfl, ⟨by have := HK.out; omega⟩, ⟨by omega⟩, ⟨by repeat (first | exact HB1.out | apply below_alloc | refine Below.setCell ?_ HB1.out.size _)⟩, ⟨((below_alloc (Below.refl w1.heap.size w1) _).block bx LLx.out).trans zO.out⟩, ⟨fun _ => HF.out.1 (by omega), fun _ => by rw [HS1.out, hb]; rfl⟩⟩
   | true =>
    cases hq0 : (q0 == node) with
    | true =>
     go_wp2_with fail
     refine (plan_end.calls a b p0 p1 q0 q1 1 b q0 q1 _ rfl).mono ?_
     rintro e w1 ⟨rfl, hb⟩
     have z1 : w1.cell? ⟨b1, 0, none⟩ = some (.int .i64 part) := (hb.cell (p := ⟨b1, 0, none⟩) HL1.out).trans y1
     have z2 : w1.cell? ⟨b2, 0, none⟩ = some (.int .i64 node) := (hb.cell (p := ⟨b2, 0, none⟩) HL2.out).trans y2
     have zO := Aside0.mk ((hb.block bx HLx.out).trans HO'.out)
     have HB1 := Aside0.mk (below_step HB'.out hb)
     have hn1 : w1.heap.size ≠ b1 := by have := HL1.out; have := hb.size; omega
     have hn2 : w1.heap.size ≠ b2 := by have := HL2.out; have := hb.size; omega
     have hm1 : b1 ≠ w1.heap.size := Ne.symm hn1
     have hm2 : b2 ≠ w1.heap.size := Ne.symm hn2
     have LL1 : b1 < w1.heap.size := by have := HL1.out; have := hb.size; omega
     have LL2 : b2 < w1.heap.size := by have := HL2.out; have := hb.size; omega
     have LLx := Aside0.mk (show bx < w1.heap.size by have := HLx.out; have := hb.size; omega)
     clear hb x0 x1 x2 x3 x4 x5 y1 y2
     go_wp2_with fail
     go_ret
     rw [show s1 = true by rw [HS1.out]; simp only [hb, hq0, Bool.true_or]; rfl]
     exact ⟨by cases s0 <;> rfl, by repeat (first | exact HB1.out | apply below_alloc | refine Below.setCell ?_ HB1.out.size _)⟩
    | false =>
     cases hq1 : (q1 == node) with
     | true =>
      go_wp2_with fail
      refine (plan_end.calls a b p0 p1 q0 q1 1 b q0 q1 _ rfl).mono ?_
      rintro e w1 ⟨rfl, hb⟩
      have z1 : w1.cell? ⟨b1, 0, none⟩ = some (.int .i64 part) := (hb.cell (p := ⟨b1, 0, none⟩) HL1.out).trans y1
      have z2 : w1.cell? ⟨b2, 0, none⟩ = some (.int .i64 node) := (hb.cell (p := ⟨b2, 0, none⟩) HL2.out).trans y2
      have zO := Aside0.mk ((hb.block bx HLx.out).trans HO'.out)
      have HB1 := Aside0.mk (below_step HB'.out hb)
      have hn1 : w1.heap.size ≠ b1 := by have := HL1.out; have := hb.size; omega
      have hn2 : w1.heap.size ≠ b2 := by have := HL2.out; have := hb.size; omega
      have hm1 : b1 ≠ w1.heap.size := Ne.symm hn1
      have hm2 : b2 ≠ w1.heap.size := Ne.symm hn2
      have LL1 : b1 < w1.heap.size := by have := HL1.out; have := hb.size; omega
      have LL2 : b2 < w1.heap.size := by have := HL2.out; have := hb.size; omega
      have LLx := Aside0.mk (show bx < w1.heap.size by have := HLx.out; have := hb.size; omega)
      clear hb x0 x1 x2 x3 x4 x5 y1 y2
      go_wp2_with fail
      go_ret
      rw [show s1 = true by rw [HS1.out]; simp only [hb, hq0, hq1]; rfl]
      exact ⟨by cases s0 <;> rfl, by repeat (first | exact HB1.out | apply below_alloc | refine Below.setCell ?_ HB1.out.size _)⟩
     | false =>
      go_wp2_with fail
      refine (plan_end.calls a b p0 p1 q0 q1 1 b q0 q1 _ rfl).mono ?_
      rintro e w1 ⟨rfl, hb⟩
      have z1 : w1.cell? ⟨b1, 0, none⟩ = some (.int .i64 part) := (hb.cell (p := ⟨b1, 0, none⟩) HL1.out).trans y1
      have z2 : w1.cell? ⟨b2, 0, none⟩ = some (.int .i64 node) := (hb.cell (p := ⟨b2, 0, none⟩) HL2.out).trans y2
      have zO := Aside0.mk ((hb.block bx HLx.out).trans HO'.out)
      have HB1 := Aside0.mk (below_step HB'.out hb)
      have hn1 : w1.heap.size ≠ b1 := by have := HL1.out; have := hb.size; omega
      have hn2 : w1.heap.size ≠ b2 := by have := HL2.out; have := hb.size; omega
      have hm1 : b1 ≠ w1.heap.size := Ne.symm hn1
      have hm2 : b2 ≠ w1.heap.size := Ne.symm hn2
      have LL1 : b1 < w1.heap.size := by have := HL1.out; have := hb.size; omega
      have LL2 : b2 < w1.heap.size := by have := HL2.out; have := hb.size; omega
      have LLx := Aside0.mk (show bx < w1.heap.size by have := HLx.out; have := hb.size; omega)
      clear hb x0 x1 x2 x3 x4 x5 y1 y2
      go_wp2_with fail
      go_roundg k1
      case measure => have := HK.out; omega
      case rel => exact ⟨2, rfl, ⟨by have := HK.out; omega⟩, ⟨by omega⟩, ⟨by repeat (first | exact HB1.out | apply below_alloc | refine Below.setCell ?_ HB1.out.size _)⟩, ⟨((below_alloc (Below.refl w1.heap.size w1) _).block bx LLx.out).trans zO.out⟩, ⟨fun _ => HF.out.1 (by omega), fun _ => by rw [HS1.out]; simp only [hb, hq0, hq1]; rfl⟩⟩
  ·subst e
   go_wp2_with fail
   go_ret
   rw [HF.out.1 (by omega), HF.out.2 (by omega)]
   exact ⟨rfl, HB'.out⟩
theorem makeFunc_run (fn : Fn) (first cap : Array Value) (w : World) : (Instr.makeFunc fn first cap).run Tryd.prog w = .ok (.func fn first cap) w := rfl
set_option maxHeartbeats 1000000 in
set_option maxRecDepth 4000 in
theorem taken_walk (A0 : Option Addr) (c0 : Nat) (l : List S37) (part node : Int) (w : World) (hr : Kd.C k37 w A0 l.length l) (hl : l.length ≤ 1000000) :
  Calls Tryd.prog 93 #[.slice A0 l.length c0, .int .i64 part, .int .i64 node] w fun e w' => e = .returned (.bool (l.any (takes part node))) ∧ Below w.heap.size w w' := by
 have hb0 := below_alloc (below_alloc (Below.refl w.heap.size w) (Obj.cells #[.int .i64 part] 3)) (Obj.cells #[.int .i64 node] 3)
 have e1 : ((w.alloc (Obj.cells #[.int .i64 part] 3)).alloc (Obj.cells #[.int .i64 node] 3)).cell? ⟨w.heap.size, 0, none⟩ = some (.int .i64 part) := by simp
 have e2 : ((w.alloc (Obj.cells #[.int .i64 part] 3)).alloc (Obj.cells #[.int .i64 node] 3)).cell? ⟨w.heap.size + 1, 0, none⟩ = some (.int .i64 node) := by simp
 have s2 : ((w.alloc (Obj.cells #[.int .i64 part] 3)).alloc (Obj.cells #[.int .i64 node] 3)).heap.size = w.heap.size + 1 + 1 := by simp
 have hcall := containsFunc (takes part node) 94 #[.pointer (some ⟨w.heap.size, 0, none⟩), .pointer (some ⟨w.heap.size + 1, 0, none⟩)] (entersT Tryd.func94 (by kernel_rfl) rfl) A0 c0 l _ (Kd.C_below hr hb0) hl (fun W x hW => by
  refine takes_walk part node w.heap.size (w.heap.size + 1) x W ((hW.cell (p := ⟨w.heap.size, 0, none⟩) (by rw [s2]; show w.heap.size < _; omega)).trans e1) ((hW.cell (p := ⟨w.heap.size + 1, 0, none⟩) (by rw [s2]; show w.heap.size + 1 < _; omega)).trans e2) ?_ ?_
  ·have := hW.size; omega
  ·have := hW.size; omega)
 generalize l.any (takes part node) = r at hcall ⊢
 have HB0 := Aside0.mk hb0
 clear hr hl e1 e2 s2 hb0
 go_enter Tryd.func93, Tryd.ntmps93
 go_wp2_with fail
 refine hcall.mono ?_
 rintro e w1 ⟨rfl, hb⟩
 have HB := Aside0.mk (below_step HB0.out hb)
 clear hb
 go_wp2_with fail
 go_ret
 exact ⟨rfl, HB.out⟩
end Go.Proofs.YtkhlndhleiaokaaDoor.MHo
set_option linter.unusedVariables false
set_option linter.unusedSimpArgs false
namespace Go.Proofs.YtkhlndhleiaokaaDoor.MHo
open Go.RowKit Go.Proofs.YtkhlndhleiaokaaDoorW.PrintWords Go.Proofs.YtkhlndhleiaokaaDoorW.PrintLast Go.Proofs.YtkhlndhleiaokaaDoorW.PrintMore
theorem idx_yes (a0 a1 : Int) (w : World) (h0 : 0 ≤ a0) (h1 : a0 < a1) : Calls Tryd.prog 86 #[.int .i64 a0, .int .i64 a1] w fun e w' => e = .returned (.bool true) ∧ Below w.heap.size w w' :=
 (plan_index.calls a0 a1 true w (by unfold plan_index.f; rw [if_pos h0, decide_eq_true h1])).mono fun e w' h => ⟨h.1, h.2.below⟩
structure SideOk (P : List S60) (T : List S37) (part : Int) (p : S35) : Prop where
 ne : (p.f0 == p.f1) = false
 part0 : 0 ≤ part
 part1 : part < P.length
 n0 : 0 ≤ p.f0
 n1 : p.f0 < (rd_T60 P part).f0
 m0 : 0 ≤ p.f1
 m1 : p.f1 < (rd_T60 P part).f0
 t0 : T.any (takes part p.f0) = false
 t1 : T.any (takes part p.f1) = false
theorem taken_no (A1 : Option Addr) (c1 : Nat) (L : List S37) (i part node : Int) (w : World) (hr : Kd.C k37 w A1 L.length L) (hl : L.length ≤ 1000) (h0 : 0 ≤ i) (h1 : i ≤ L.length) (ht : (L.take i.toNat).any (takes part node) = false) :
  Calls Tryd.prog 93 #[.slice A1 i.toNat c1, .int .i64 part, .int .i64 node] w fun e w' => e = .returned (.bool false) ∧ Below w.heap.size w w' := by
 have hlen : (L.take i.toNat).length = i.toNat := by rw [List.length_take]; omega
 have h := taken_walk A1 c1 (L.take i.toNat) part node w (by exact Kd.C_take hr (show i.toNat ≤ L.length by omega)) (by rw [hlen]; omega)
 rw [hlen, ht] at h
 exact h
set_option maxHeartbeats 8000000 in
set_option maxRecDepth 4000 in
theorem ports_yes (A0 : Option Addr) (c0 : Nat) (P : List S60) (A1 : Option Addr) (c1 : Nat) (L : List S37) (a2 a3 a4 a5 a6 a7 a8 a9 a10 a11 a12 : Int) (i : Int) (x : S37) (w : World) (hr0 : Kd.C k60 w A0 P.length P) (hc0 : P.length ≤ c0) (hr1 : Kd.C k37 w A1 L.length L) (hc1 : L.length ≤ c1) (hL : L.length ≤ 1000) (hi0 : 0 ≤ i) (hi1 : i < L.length) (hx : rd_T37 L i = x)
  (hs0 : SideOk P (L.take i.toNat) x.f0 x.f2) (hs1 : SideOk P (L.take i.toNat) x.f1 x.f3) :
  Calls Tryd.prog 89 #[.agg #[.slice A0 P.length c0, .slice A1 L.length c1, .int .i64 a2, .int .i64 a3, .int .i64 a4, .int .i64 a5, .int .i64 a6, .int .i64 a7, .int .i64 a8, .int .i64 a9, .int .i64 a10, .int .i64 a11, .int .i64 a12], .int .i64 i] w fun e w' => e = .returned (.bool true) ∧ Below w.heap.size w w' := by
 have HR0 := Aside0.mk hr0
 have HR1 := Aside0.mk hr1
 have HC0 := Aside0.mk hc0
 have HC1 := Aside0.mk hc1
 have HS0 := Aside0.mk hs0
 have HS1 := Aside0.mk hs1
 have HX := Aside0.mk hx
 have HL := Aside0.mk hL
 have hic : i ≤ (c1 : Int) := by omega
 clear hr0 hr1 hc0 hc1 hs0 hs1 hx hL
 obtain ⟨ad1, e1, _⟩ := at_T37 HR1.out i hi0 hi1
 obtain ⟨ad0, e0, _⟩ := at_T60 HR0.out x.f0 HS0.out.part0 HS0.out.part1
 subst e0
 subst e1
 obtain ⟨a, b, ⟨p0, p1⟩, ⟨q0, q1⟩⟩ := x
 have p0_ := eq_true hi0
 have p1_ := eq_true hi1
 go_enter Tryd.func89, Tryd.ntmps89
 go_wp2_with fail
 have HO : Aside0 ((w.alloc (.cells #[.slice (some ad0) P.length c0, .slice (some ad1) L.length c1, .int .i64 a2, .int .i64 a3, .int .i64 a4, .int .i64 a5, .int .i64 a6, .int .i64 a7, .int .i64 a8, .int .i64 a9, .int .i64 a10, .int .i64 a11, .int .i64 a12] 25)).heap[w.heap.size]? = some (.cells #[.slice (some ad0) P.length c0, .slice (some ad1) L.length c1, .int .i64 a2, .int .i64 a3, .int .i64 a4, .int .i64 a5, .int .i64 a6, .int .i64 a7, .int .i64 a8, .int .i64 a9, .int .i64 a10, .int .i64 a11, .int .i64 a12] 25)) := ⟨heap_alloc_new _ _⟩
 have HB := Aside0.mk (below_alloc (Below.refl w.heap.size w) (Obj.cells #[.slice (some ad0) P.length c0, .slice (some ad1) L.length c1, .int .i64 a2, .int .i64 a3, .int .i64 a4, .int .i64 a5, .int .i64 a6, .int .i64 a7, .int .i64 a8, .int .i64 a9, .int .i64 a10, .int .i64 a11, .int .i64 a12] 25))
 generalize w.alloc (Obj.cells #[.slice (some ad0) P.length c0, .slice (some ad1) L.length c1, .int .i64 a2, .int .i64 a3, .int .i64 a4, .int .i64 a5, .int .i64 a6, .int .i64 a7, .int .i64 a8, .int .i64 a9, .int .i64 a10, .int .i64 a11, .int .i64 a12] 25) = wa at *
 obtain ⟨bx, hbx⟩ : ∃ bx, bx = w.heap.size := ⟨_, rfl⟩
 rw [← hbx]
 rw [← hbx] at HO
 have HBX := Aside0.mk hbx
 clear hbx
 go_loopg [10] 3 (fun kq v10 w' => ∃ k : Nat, v10 = .int .i64 k ∧ Aside0 (kq + k = 3) ∧ Aside0 (k ≤ 2) ∧ Aside0 (Below w.heap.size w w') ∧ Aside0 (w'.heap[bx]? = some (.cells #[.slice (some ad0) P.length c0, .slice (some ad1) L.length c1, .int .i64 a2, .int .i64 a3, .int .i64 a4, .int .i64 a5, .int .i64 a6, .int .i64 a7, .int .i64 a8, .int .i64 a9, .int .i64 a10, .int .i64 a11, .int .i64 a12] 25)))
 case atStart => exact ⟨0, rfl, ⟨by omega⟩, ⟨by omega⟩, HB, HO⟩
 case round =>
  clear HO HB
  obtain ⟨k, rfl, HK, HK2, HB, HO⟩ := hrel
  cases gk with
  | zero => exact absurd HK.out (by have := HK2.out; omega)
  | succ k1 =>
  rcases (show k = 0 ∨ k = 1 ∨ k = 2 from by have := HK2.out; omega) with e | e | e
  ·subst e
   obtain ⟨x0, x1, x2, x3, x4, x5, x6, x7, x8, x9, x10, x11, x12⟩ := cellsK13 HO.out
   obtain ⟨ad', e1, y0, y1, y2, y3, y4, y5⟩ := at_T37 (Kd.C_below HR1.out HB.out) i hi0 hi1
   have e1' := Option.some.inj e1
   subst e1'
   clear e1
   rw [HX.out] at y0 y1 y2 y3 y4 y5
   dsimp only at y0 y1 y2 y3 y4 y5
   have hne := HS0.out.ne
   dsimp only at hne
   go_wp2_with fail
   refine (plan_end.calls a b p0 p1 q0 q1 0 a p0 p1 _ rfl).mono ?_
   rintro e w1 ⟨rfl, hb⟩
   clear x0 x1 x2 x3 x4 x5 x6 x7 x8 x9 x10 x11 x12 y0 y1 y2 y3 y4 y5
   have HB1 := Aside0.mk (below_step HB.out hb)
   have HO1 := Aside0.mk ((hb.block bx (blk_lt HO.out)).trans HO.out)
   clear hb
   obtain ⟨x0, x1, x2, x3, x4, x5, x6, x7, x8, x9, x10, x11, x12⟩ := cellsK13 HO1.out
   go_wp2_with fail
   have HB2 := Aside0.mk (below_alloc HB1.out (Obj.cells #[.int .i64 p0, .int .i64 p1] 35))
   have HO2 := Aside0.mk (((below_alloc (Below.refl w1.heap.size w1) (Obj.cells #[.int .i64 p0, .int .i64 p1] 35)).block bx (blk_lt HO1.out)).trans HO1.out)
   clear x0 x1 x2 x3 x4 x5 x6 x7 x8 x9 x10 x11 x12
   generalize w1.alloc (Obj.cells #[.int .i64 p0, .int .i64 p1] 35) = w2 at *
   have hq0 := HS0.out.part0
   have hq1 := HS0.out.part1
   have hq0_ := eq_true hq0
   have hq1_ := eq_true hq1
   have ix0 : ∀ w : World, (Instr.index 35 (.agg #[.int .i64 p0, .int .i64 p1]) (.int .i64 0)).run Tryd.prog w = .ok (.int .i64 p0) w := fun _ => by kernel_rfl
   have ix1 : ∀ w : World, (Instr.index 35 (.agg #[.int .i64 p0, .int .i64 p1]) (.int .i64 1)).run Tryd.prog w = .ok (.int .i64 p1) w := fun _ => by kernel_rfl
   refine wp_loop_rounds 3 ?_
   rw [rounds_succ]
   obtain ⟨x0, x1, x2, x3, x4, x5, x6, x7, x8, x9, x10, x11, x12⟩ := cellsK13 HO2.out
   obtain ⟨ad', e0, z0, z1⟩ := at_T60 (Kd.C_below HR0.out HB2.out) a hq0 hq1
   have e0' := Option.some.inj e0
   subst e0'
   clear e0
   go_wp2_with fail
   refine (idx_yes _ _ _ HS0.out.n0 HS0.out.n1).mono ?_
   rintro e w3 ⟨rfl, hb⟩
   clear x0 x1 x2 x3 x4 x5 x6 x7 x8 x9 x10 x11 x12 z0 z1
   have HB3 := Aside0.mk (below_step HB2.out hb)
   have HO3 := Aside0.mk ((hb.block bx (blk_lt HO2.out)).trans HO2.out)
   clear hb
   obtain ⟨x0, x1, x2, x3, x4, x5, x6, x7, x8, x9, x10, x11, x12⟩ := cellsK13 HO3.out
   go_wp2_with fail
   refine (taken_no _ c1 L i a p0 _ (Kd.C_below HR1.out HB3.out) HL.out hi0 (by omega) HS0.out.t0).mono ?_
   rintro e w4 ⟨rfl, hb⟩
   clear x0 x1 x2 x3 x4 x5 x6 x7 x8 x9 x10 x11 x12
   have HB4 := Aside0.mk (below_step HB3.out hb)
   have HO4 := Aside0.mk ((hb.block bx (blk_lt HO3.out)).trans HO3.out)
   clear hb
   go_wp2_with fail
   rw [rounds_succ]
   obtain ⟨x0, x1, x2, x3, x4, x5, x6, x7, x8, x9, x10, x11, x12⟩ := cellsK13 HO4.out
   obtain ⟨ad', e0, z0, z1⟩ := at_T60 (Kd.C_below HR0.out HB4.out) a hq0 hq1
   have e0' := Option.some.inj e0
   subst e0'
   clear e0
   go_wp2_with fail
   refine (idx_yes _ _ _ HS0.out.m0 HS0.out.m1).mono ?_
   rintro e w5 ⟨rfl, hb⟩
   clear x0 x1 x2 x3 x4 x5 x6 x7 x8 x9 x10 x11 x12 z0 z1
   have HB5 := Aside0.mk (below_step HB4.out hb)
   have HO5 := Aside0.mk ((hb.block bx (blk_lt HO4.out)).trans HO4.out)
   clear hb
   obtain ⟨x0, x1, x2, x3, x4, x5, x6, x7, x8, x9, x10, x11, x12⟩ := cellsK13 HO5.out
   go_wp2_with fail
   refine (taken_no _ c1 L i a p1 _ (Kd.C_below HR1.out HB5.out) HL.out hi0 (by omega) HS0.out.t1).mono ?_
   rintro e w6 ⟨rfl, hb⟩
   clear x0 x1 x2 x3 x4 x5 x6 x7 x8 x9 x10 x11 x12
   have HB6 := Aside0.mk (below_step HB5.out hb)
   have HO6 := Aside0.mk ((hb.block bx (blk_lt HO5.out)).trans HO5.out)
   clear hb
   go_wp2_with fail
   rw [rounds_succ]
   go_wp2_with fail
   go_roundg k1
   case measure => have := HK.out; omega
   case rel => exact ⟨1, rfl, ⟨by have := HK.out; omega⟩, ⟨by omega⟩, HB6, HO6⟩
  ·subst e
   obtain ⟨x0, x1, x2, x3, x4, x5, x6, x7, x8, x9, x10, x11, x12⟩ := cellsK13 HO.out
   obtain ⟨ad', e1, y0, y1, y2, y3, y4, y5⟩ := at_T37 (Kd.C_below HR1.out HB.out) i hi0 hi1
   have e1' := Option.some.inj e1
   subst e1'
   clear e1
   rw [HX.out] at y0 y1 y2 y3 y4 y5
   dsimp only at y0 y1 y2 y3 y4 y5
   have hne := HS1.out.ne
   dsimp only at hne
   go_wp2_with fail
   refine (plan_end.calls a b p0 p1 q0 q1 1 b q0 q1 _ rfl).mono ?_
   rintro e w1 ⟨rfl, hb⟩
   clear x0 x1 x2 x3 x4 x5 x6 x7 x8 x9 x10 x11 x12 y0 y1 y2 y3 y4 y5
   have HB1 := Aside0.mk (below_step HB.out hb)
   have HO1 := Aside0.mk ((hb.block bx (blk_lt HO.out)).trans HO.out)
   clear hb
   obtain ⟨x0, x1, x2, x3, x4, x5, x6, x7, x8, x9, x10, x11, x12⟩ := cellsK13 HO1.out
   go_wp2_with fail
   have HB2 := Aside0.mk (below_alloc HB1.out (Obj.cells #[.int .i64 q0, .int .i64 q1] 35))
   have HO2 := Aside0.mk (((below_alloc (Below.refl w1.heap.size w1) (Obj.cells #[.int .i64 q0, .int .i64 q1] 35)).block bx (blk_lt HO1.out)).trans HO1.out)
   clear x0 x1 x2 x3 x4 x5 x6 x7 x8 x9 x10 x11 x12
   generalize w1.alloc (Obj.cells #[.int .i64 q0, .int .i64 q1] 35) = w2 at *
   have hq0 := HS1.out.part0
   have hq1 := HS1.out.part1
   have hq0_ := eq_true hq0
   have hq1_ := eq_true hq1
   have ix0 : ∀ w : World, (Instr.index 35 (.agg #[.int .i64 q0, .int .i64 q1]) (.int .i64 0)).run Tryd.prog w = .ok (.int .i64 q0) w := fun _ => by kernel_rfl
   have ix1 : ∀ w : World, (Instr.index 35 (.agg #[.int .i64 q0, .int .i64 q1]) (.int .i64 1)).run Tryd.prog w = .ok (.int .i64 q1) w := fun _ => by kernel_rfl
   refine wp_loop_rounds 3 ?_
   rw [rounds_succ]
   obtain ⟨x0, x1, x2, x3, x4, x5, x6, x7, x8, x9, x10, x11, x12⟩ := cellsK13 HO2.out
   obtain ⟨ad', e0, z0, z1⟩ := at_T60 (Kd.C_below HR0.out HB2.out) b hq0 hq1
   have e0' := Option.some.inj e0
   subst e0'
   clear e0
   go_wp2_with fail
   refine (idx_yes _ _ _ HS1.out.n0 HS1.out.n1).mono ?_
   rintro e w3 ⟨rfl, hb⟩
   clear x0 x1 x2 x3 x4 x5 x6 x7 x8 x9 x10 x11 x12 z0 z1
   have HB3 := Aside0.mk (below_step HB2.out hb)
   have HO3 := Aside0.mk ((hb.block bx (blk_lt HO2.out)).trans HO2.out)
   clear hb
   obtain ⟨x0, x1, x2, x3, x4, x5, x6, x7, x8, x9, x10, x11, x12⟩ := cellsK13 HO3.out
   go_wp2_with fail
   refine (taken_no _ c1 L i b q0 _ (Kd.C_below HR1.out HB3.out) HL.out hi0 (by omega) HS1.out.t0).mono ?_
   rintro e w4 ⟨rfl, hb⟩
   clear x0 x1 x2 x3 x4 x5 x6 x7 x8 x9 x10 x11 x12
   have HB4 := Aside0.mk (below_step HB3.out hb)
   have HO4 := Aside0.mk ((hb.block bx (blk_lt HO3.out)).trans HO3.out)
   clear hb
   go_wp2_with fail
   rw [rounds_succ]
   obtain ⟨x0, x1, x2, x3, x4, x5, x6, x7, x8, x9, x10, x11, x12⟩ := cellsK13 HO4.out
   obtain ⟨ad', e0, z0, z1⟩ := at_T60 (Kd.C_below HR0.out HB4.out) b hq0 hq1
   have e0' := Option.some.inj e0
   subst e0'
   clear e0
   go_wp2_with fail
   refine (idx_yes _ _ _ HS1.out.m0 HS1.out.m1).mono ?_
   rintro e w5 ⟨rfl, hb⟩
   clear x0 x1 x2 x3 x4 x5 x6 x7 x8 x9 x10 x11 x12 z0 z1
   have HB5 := Aside0.mk (below_step HB4.out hb)
   have HO5 := Aside0.mk ((hb.block bx (blk_lt HO4.out)).trans HO4.out)
   clear hb
   obtain ⟨x0, x1, x2, x3, x4, x5, x6, x7, x8, x9, x10, x11, x12⟩ := cellsK13 HO5.out
   go_wp2_with fail
   refine (taken_no _ c1 L i b q1 _ (Kd.C_below HR1.out HB5.out) HL.out hi0 (by omega) HS1.out.t1).mono ?_
   rintro e w6 ⟨rfl, hb⟩
   clear x0 x1 x2 x3 x4 x5 x6 x7 x8 x9 x10 x11 x12
   have HB6 := Aside0.mk (below_step HB5.out hb)
   have HO6 := Aside0.mk ((hb.block bx (blk_lt HO5.out)).trans HO5.out)
   clear hb
   go_wp2_with fail
   rw [rounds_succ]
   go_wp2_with fail
   go_roundg k1
   case measure => have := HK.out; omega
   case rel => exact ⟨2, rfl, ⟨by have := HK.out; omega⟩, ⟨by omega⟩, HB6, HO6⟩
  ·subst e
   go_wp2_with fail
   go_ret
   exact ⟨rfl, HB.out⟩
end Go.Proofs.YtkhlndhleiaokaaDoor.MHo
set_option linter.unusedVariables false
set_option linter.unusedSimpArgs false
namespace Go.Proofs.YtkhlndhleiaokaaDoor.MHo
open Go.RowKit Go.Proofs.YtkhlndhleiaokaaDoorW.PrintWords Go.Proofs.YtkhlndhleiaokaaDoorW.PrintLast Go.Proofs.YtkhlndhleiaokaaDoorW.PrintMore
def sameEnds (a b : Int) (x : S37) : Bool := x.f0 == a && x.f1 == b
set_option maxHeartbeats 4000000 in
set_option maxRecDepth 4000 in
theorem same_walk (a b p0 p1 q0 q1 : Int) (bl : Nat) (x : S37) (w : World) (h : w.heap[bl]? = some (.cells #[.int .i64 a, .int .i64 b, .int .i64 p0, .int .i64 p1, .int .i64 q0, .int .i64 q1] 37)) :
  Calls Tryd.prog 88 #[val37 x, .pointer (some ⟨bl, 0, none⟩)] w fun e w' => e = .returned (.bool (sameEnds a b x)) ∧ Below w.heap.size w w' := by
 obtain ⟨xa, xb, ⟨x0, x1⟩, ⟨x2, x3⟩⟩ := x
 have c0 : w.cell? ⟨bl, 0, none⟩ = some (.int .i64 a) := (blk_cell h 0).trans rfl
 have c1 : w.cell? ⟨bl, 1, none⟩ = some (.int .i64 b) := (blk_cell h 1).trans rfl
 have hlt := blk_lt h
 have hne : bl ≠ w.heap.size := by omega
 have hne2 : w.heap.size ≠ bl := by omega
 clear h
 have HS : sameEnds a b ⟨xa, xb, ⟨x0, x1⟩, ⟨x2, x3⟩⟩ = (xa == a && xb == b) := rfl
 rw [HS]
 clear HS
 cases h1 : (xa == a) with
 | false =>
  go_enter Tryd.func88, Tryd.ntmps88
  go_wp2_with fail
  go_ret
  exact ⟨rfl, by repeat (first | exact Below.refl _ _ | apply below_alloc)⟩
 | true =>
  cases h2 : (xb == b) with
  | false =>
   go_enter Tryd.func88, Tryd.ntmps88
   go_wp2_with fail
   go_ret
   exact ⟨rfl, by repeat (first | exact Below.refl _ _ | apply below_alloc)⟩
  | true =>
   go_enter Tryd.func88, Tryd.ntmps88
   go_wp2_with fail
   go_ret
   exact ⟨rfl, by repeat (first | exact Below.refl _ _ | apply below_alloc)⟩
theorem twice_no (a b p0 p1 q0 q1 : Int) (bl : Nat) (A1 : Option Addr) (c1 : Nat) (L : List S37) (i : Int) (w : World) (hr : Kd.C k37 w A1 L.length L) (hl : L.length ≤ 1000) (h0 : 0 ≤ i) (h1 : i ≤ L.length) (ht : (L.take i.toNat).any (sameEnds a b) = false)
  (h : w.heap[bl]? = some (.cells #[.int .i64 a, .int .i64 b, .int .i64 p0, .int .i64 p1, .int .i64 q0, .int .i64 q1] 37)) :
  Calls Tryd.prog 87 #[.slice A1 i.toNat c1, .func (.func 88) #[] #[.pointer (some ⟨bl, 0, none⟩)]] w fun e w' => e = .returned (.bool false) ∧ Below w.heap.size w w' := by
 have hlen : (L.take i.toNat).length = i.toNat := by rw [List.length_take]; omega
 have h := containsFunc (sameEnds a b) 88 #[.pointer (some ⟨bl, 0, none⟩)] (entersT Tryd.func88 (by kernel_rfl) rfl) A1 c1 (L.take i.toNat) w (Kd.C_take hr (show i.toNat ≤ L.length by omega)) (by rw [hlen]; omega)
  (fun W x hW => same_walk a b p0 p1 q0 q1 bl x W ((hW.block bl (blk_lt h)).trans h))
 rw [hlen, ht] at h
 exact h
structure LinkOk (P : List S60) (T : List S37) (x : S37) : Prop where
 a0 : 0 ≤ x.f0
 ab : x.f0 < x.f1
 b1 : x.f1 < P.length
 once : T.any (sameEnds x.f0 x.f1) = false
 s0 : SideOk P T x.f0 x.f2
 s1 : SideOk P T x.f1 x.f3
set_option maxHeartbeats 8000000 in
set_option maxRecDepth 4000 in
theorem links_yes (A0 : Option Addr) (c0 : Nat) (P : List S60) (A1 : Option Addr) (c1 : Nat) (L : List S37) (a2 a3 a4 a5 a6 a7 a8 a9 a10 a11 a12 : Int) (w : World) (hr0 : Kd.C k60 w A0 P.length P) (hc0 : P.length ≤ c0) (hr1 : Kd.C k37 w A1 L.length L) (hc1 : L.length ≤ c1) (hL : L.length ≤ 10) (hk : ∀ i : Int, 0 ≤ i → i < L.length → LinkOk P (L.take i.toNat) (rd_T37 L i)) :
  Calls Tryd.prog 74 #[.agg #[.slice A0 P.length c0, .slice A1 L.length c1, .int .i64 a2, .int .i64 a3, .int .i64 a4, .int .i64 a5, .int .i64 a6, .int .i64 a7, .int .i64 a8, .int .i64 a9, .int .i64 a10, .int .i64 a11, .int .i64 a12]] w fun e w' => e = .returned .nilIface ∧ Below w.heap.size w w' := by
 have HR0 := Aside0.mk hr0
 have HR1 := Aside0.mk hr1
 have HC0 := Aside0.mk hc0
 have HC1 := Aside0.mk hc1
 have HK0 := Aside0.mk hk
 have HL := Aside0.mk hL
 have hd : decide ((10 : Int) < (L.length : Int)) = false := decide_eq_false (by omega)
 clear hr0 hr1 hc0 hc1 hk hL
 go_enter Tryd.func74, Tryd.ntmps74
 go_wp2_with fail
 have HO : Aside0 ((w.alloc (.cells #[.slice A0 P.length c0, .slice A1 L.length c1, .int .i64 a2, .int .i64 a3, .int .i64 a4, .int .i64 a5, .int .i64 a6, .int .i64 a7, .int .i64 a8, .int .i64 a9, .int .i64 a10, .int .i64 a11, .int .i64 a12] 25)).heap[w.heap.size]? = some (.cells #[.slice A0 P.length c0, .slice A1 L.length c1, .int .i64 a2, .int .i64 a3, .int .i64 a4, .int .i64 a5, .int .i64 a6, .int .i64 a7, .int .i64 a8, .int .i64 a9, .int .i64 a10, .int .i64 a11, .int .i64 a12] 25)) := ⟨heap_alloc_new _ _⟩
 have HB := Aside0.mk (below_alloc (Below.refl w.heap.size w) (Obj.cells #[.slice A0 P.length c0, .slice A1 L.length c1, .int .i64 a2, .int .i64 a3, .int .i64 a4, .int .i64 a5, .int .i64 a6, .int .i64 a7, .int .i64 a8, .int .i64 a9, .int .i64 a10, .int .i64 a11, .int .i64 a12] 25))
 generalize w.alloc (Obj.cells #[.slice A0 P.length c0, .slice A1 L.length c1, .int .i64 a2, .int .i64 a3, .int .i64 a4, .int .i64 a5, .int .i64 a6, .int .i64 a7, .int .i64 a8, .int .i64 a9, .int .i64 a10, .int .i64 a11, .int .i64 a12] 25) = wa at *
 obtain ⟨bx, hbx⟩ : ∃ bx, bx = w.heap.size := ⟨_, rfl⟩
 rw [← hbx]
 rw [← hbx] at HO
 have HBX := Aside0.mk hbx
 clear hbx hd
 go_loopg [13] (L.length + 1) (fun kq v13 w' => ∃ i : Int, v13 = .int .i64 i ∧ Aside0 (kq + i = L.length + 1 ∧ 0 ≤ i) ∧ Aside0 (Below w.heap.size w w') ∧ Aside0 (w'.heap[bx]? = some (.cells #[.slice A0 P.length c0, .slice A1 L.length c1, .int .i64 a2, .int .i64 a3, .int .i64 a4, .int .i64 a5, .int .i64 a6, .int .i64 a7, .int .i64 a8, .int .i64 a9, .int .i64 a10, .int .i64 a11, .int .i64 a12] 25)))
 case atStart => exact ⟨0, rfl, ⟨by omega⟩, HB, HO⟩
 case round =>
  clear HO HB
  obtain ⟨i, rfl, HK, HB, HO⟩ := hrel
  by_cases hi1 : i < (L.length : Int)
  ·have hi0 := HK.out.2
   obtain ⟨ad1, e1, y0, y1, y2, y3, y4, y5⟩ := at_T37 (Kd.C_below HR1.out HB.out) i hi0 hi1
   cases e1
   have HQ := Aside0.mk (HK0.out i hi0 hi1)
   obtain ⟨x, hx⟩ : ∃ x, rd_T37 L i = x := ⟨_, rfl⟩
   have HX := Aside0.mk hx
   rw [hx] at y0 y1 y2 y3 y4 y5 HQ
   clear hx
   obtain ⟨a, b, ⟨p0, p1⟩, ⟨q0, q1⟩⟩ := x
   have HQ' : Aside0 (0 ≤ a ∧ a < b ∧ b < (P.length : Int)) := ⟨HQ.out.a0, HQ.out.ab, HQ.out.b1⟩
   dsimp only at y0 y1 y2 y3 y4 y5
   have hlt : decide (i < (L.length : Int)) = true := decide_eq_true hi1
   have p0_ := eq_true hi0
   have p1_ := eq_true hi1
   have hic : i ≤ (c1 : Int) := by have := HC1.out; omega
   have hw1 : wrap64 (i + 1) = i + 1 := by have := HL.out; unfold wrap64; omega
   have hge : decide (b ≤ a) = false := decide_eq_false (by have := HQ'.out; omega)
   cases gk with
   | zero => exact absurd HK.out (by omega)
   | succ k1 =>
   obtain ⟨x0, x1, x2, x3, x4, x5, x6, x7, x8, x9, x10, x11, x12⟩ := cellsK13 HO.out
   go_upto_region 6 with fail
   have HB1 := Aside0.mk (below_alloc HB.out (Obj.cells #[.int .i64 a, .int .i64 b, .int .i64 p0, .int .i64 p1, .int .i64 q0, .int .i64 q1] 37))
   have HO1 := Aside0.mk (((below_alloc (Below.refl wr.heap.size wr) (Obj.cells #[.int .i64 a, .int .i64 b, .int .i64 p0, .int .i64 p1, .int .i64 q0, .int .i64 q1] 37)).block bx (blk_lt HO.out)).trans HO.out)
   have HLk1 : Aside0 ((wr.alloc (Obj.cells #[.int .i64 a, .int .i64 b, .int .i64 p0, .int .i64 p1, .int .i64 q0, .int .i64 q1] 37)).heap[wr.heap.size]? = some (Obj.cells #[.int .i64 a, .int .i64 b, .int .i64 p0, .int .i64 p1, .int .i64 q0, .int .i64 q1] 37)) := ⟨heap_alloc_new _ _⟩
   clear x0 x1 x2 x3 x4 x5 x6 x7 x8 x9 x10 x11 x12 y0 y1 y2 y3 y4 y5
   generalize wr.alloc (Obj.cells #[.int .i64 a, .int .i64 b, .int .i64 p0, .int .i64 p1, .int .i64 q0, .int .i64 q1] 37) = w1 at *
   generalize wr.heap.size = bl at *
   obtain ⟨x0, x1, x2, x3, x4, x5, x6, x7, x8, x9, x10, x11, x12⟩ := cellsK13 HO1.out
   obtain ⟨l0, l1, l2, l3, l4, l5⟩ := cellsK6 HLk1.out
   go_wp2_with fail
   refine (idx_yes a (P.length : Int) _ HQ'.out.1 (by have := HQ'.out; omega)).mono ?_
   rintro e w2 ⟨rfl, hb⟩
   clear x0 x1 x2 x3 x4 x5 x6 x7 x8 x9 x10 x11 x12 l0 l1 l2 l3 l4 l5
   have HB2 := Aside0.mk (below_step HB1.out hb)
   have HO2 := Aside0.mk ((hb.block bx (blk_lt HO1.out)).trans HO1.out)
   have HLk2 := Aside0.mk ((hb.block bl (blk_lt HLk1.out)).trans HLk1.out)
   clear hb
   obtain ⟨x0, x1, x2, x3, x4, x5, x6, x7, x8, x9, x10, x11, x12⟩ := cellsK13 HO2.out
   obtain ⟨l0, l1, l2, l3, l4, l5⟩ := cellsK6 HLk2.out
   go_wp2_with fail
   refine (idx_yes _ _ _ (show (0 : Int) ≤ b by have := HQ'.out; omega) HQ'.out.2.2).mono ?_
   rintro e w3 ⟨rfl, hb⟩
   clear x0 x1 x2 x3 x4 x5 x6 x7 x8 x9 x10 x11 x12 l0 l1 l2 l3 l4 l5
   have HB3 := Aside0.mk (below_step HB2.out hb)
   have HO3 := Aside0.mk ((hb.block bx (blk_lt HO2.out)).trans HO2.out)
   have HLk3 := Aside0.mk ((hb.block bl (blk_lt HLk2.out)).trans HLk2.out)
   clear hb
   obtain ⟨x0, x1, x2, x3, x4, x5, x6, x7, x8, x9, x10, x11, x12⟩ := cellsK13 HO3.out
   obtain ⟨l0, l1, l2, l3, l4, l5⟩ := cellsK6 HLk3.out
   go_wp2_with fail
   refine (twice_no a b p0 p1 q0 q1 bl _ c1 L i _ (Kd.C_below HR1.out HB3.out) (by have := HL.out; omega) hi0 (by omega) HQ.out.once HLk3.out).mono ?_
   rintro e w4 ⟨rfl, hb⟩
   clear x0 x1 x2 x3 x4 x5 x6 x7 x8 x9 x10 x11 x12 l0 l1 l2 l3 l4 l5
   have HB4 := Aside0.mk (below_step HB3.out hb)
   have HO4 := Aside0.mk ((hb.block bx (blk_lt HO3.out)).trans HO3.out)
   have HLk4 := Aside0.mk ((hb.block bl (blk_lt HLk3.out)).trans HLk3.out)
   clear hb
   obtain ⟨x0, x1, x2, x3, x4, x5, x6, x7, x8, x9, x10, x11, x12⟩ := cellsK13 HO4.out
   obtain ⟨l0, l1, l2, l3, l4, l5⟩ := cellsK6 HLk4.out
   go_wp2_with fail
   refine (ports_yes A0 c0 P (some ad1) c1 L a2 a3 a4 a5 a6 a7 a8 a9 a10 a11 a12 i ⟨a, b, ⟨p0, p1⟩, ⟨q0, q1⟩⟩ _ (Kd.C_below HR0.out HB4.out) HC0.out (Kd.C_below HR1.out HB4.out) HC1.out (by have := HL.out; omega) hi0 hi1 HX.out HQ.out.s0 HQ.out.s1).mono ?_
   rintro e w5 ⟨rfl, hb⟩
   clear x0 x1 x2 x3 x4 x5 x6 x7 x8 x9 x10 x11 x12 l0 l1 l2 l3 l4 l5
   have HB5 := Aside0.mk (below_step HB4.out hb)
   have HO5 := Aside0.mk ((hb.block bx (blk_lt HO4.out)).trans HO4.out)
   have HLk5 := Aside0.mk ((hb.block bl (blk_lt HLk4.out)).trans HLk4.out)
   clear hb
   go_wp2_with fail
   go_roundg k1
   case measure => have := HK.out; omega
   case rel => exact ⟨i + 1, (by first | rfl | rw [hw1]), ⟨by have := HK.out; omega⟩, HB5, HO5⟩
  ·have hlt : decide (i < (L.length : Int)) = false := decide_eq_false hi1
   go_wp2_with fail
   go_ret
   exact ⟨rfl, HB.out⟩
def PartOk (p : S60) : Prop := 1 ≤ p.f0 ∧ p.f0 ≤ 12 ∧ 0 ≤ p.f1 ∧ p.f1 ≤ 3 ∧ 3 * p.f1 + 1 ≤ p.f0
set_option maxHeartbeats 8000000 in
set_option maxRecDepth 4000 in
theorem parts_yes (A0 : Option Addr) (c0 : Nat) (P : List S60) (A1 : Option Addr) (c1 : Nat) (L : List S37) (a2 a3 a4 a5 a6 a7 a8 a9 a10 a11 a12 : Int) (w : World) (hr0 : Kd.C k60 w A0 P.length P) (hc0 : P.length ≤ c0) (hr1 : Kd.C k37 w A1 L.length L) (hc1 : L.length ≤ c1) (h1 : 1 ≤ P.length) (h6 : P.length ≤ 6) (hk : ∀ i : Int, 0 ≤ i → i < P.length → PartOk (rd_T60 P i)) :
  Calls Tryd.prog 73 #[.agg #[.slice A0 P.length c0, .slice A1 L.length c1, .int .i64 a2, .int .i64 a3, .int .i64 a4, .int .i64 a5, .int .i64 a6, .int .i64 a7, .int .i64 a8, .int .i64 a9, .int .i64 a10, .int .i64 a11, .int .i64 a12]] w fun e w' => e = .returned .nilIface ∧ Below w.heap.size w w' := by
 have HR0 := Aside0.mk hr0
 have HK0 := Aside0.mk hk
 have HL := Aside0.mk h6
 have hd1 : decide ((P.length : Int) < 1) = false := decide_eq_false (by omega)
 have hd6 : decide ((6 : Int) < (P.length : Int)) = false := decide_eq_false (by omega)
 clear hr0 hr1 hc0 hc1 hk h1 h6
 go_enter Tryd.func73, Tryd.ntmps73
 go_wp2_with fail
 have HO : Aside0 ((w.alloc (.cells #[.slice A0 P.length c0, .slice A1 L.length c1, .int .i64 a2, .int .i64 a3, .int .i64 a4, .int .i64 a5, .int .i64 a6, .int .i64 a7, .int .i64 a8, .int .i64 a9, .int .i64 a10, .int .i64 a11, .int .i64 a12] 25)).heap[w.heap.size]? = some (.cells #[.slice A0 P.length c0, .slice A1 L.length c1, .int .i64 a2, .int .i64 a3, .int .i64 a4, .int .i64 a5, .int .i64 a6, .int .i64 a7, .int .i64 a8, .int .i64 a9, .int .i64 a10, .int .i64 a11, .int .i64 a12] 25)) := ⟨heap_alloc_new _ _⟩
 have HB := Aside0.mk (below_alloc (Below.refl w.heap.size w) (Obj.cells #[.slice A0 P.length c0, .slice A1 L.length c1, .int .i64 a2, .int .i64 a3, .int .i64 a4, .int .i64 a5, .int .i64 a6, .int .i64 a7, .int .i64 a8, .int .i64 a9, .int .i64 a10, .int .i64 a11, .int .i64 a12] 25))
 generalize w.alloc (Obj.cells #[.slice A0 P.length c0, .slice A1 L.length c1, .int .i64 a2, .int .i64 a3, .int .i64 a4, .int .i64 a5, .int .i64 a6, .int .i64 a7, .int .i64 a8, .int .i64 a9, .int .i64 a10, .int .i64 a11, .int .i64 a12] 25) = wa at *
 clear HO hd1 hd6
 go_loopg [19] (P.length + 1) (fun kq v19 w' => ∃ i : Int, v19 = .int .i64 i ∧ Aside0 (kq + i = P.length + 1 ∧ 0 ≤ i) ∧ Aside0 (Below w.heap.size w w'))
 case atStart => exact ⟨0, rfl, ⟨by omega⟩, HB⟩
 case round =>
  clear HB
  obtain ⟨i, rfl, HK, HB⟩ := hrel
  by_cases hi1 : i < (P.length : Int)
  ·have hi0 := HK.out.2
   obtain ⟨ad0, e0, y0, y1⟩ := at_T60 (Kd.C_below HR0.out HB.out) i hi0 hi1
   cases e0
   have HQ := Aside0.mk (HK0.out i hi0 hi1)
   obtain ⟨n, f, hx⟩ : ∃ n f, rd_T60 P i = ⟨n, f⟩ := ⟨_, _, rfl⟩
   rw [hx] at y0 y1 HQ
   clear hx
   dsimp only at y0 y1
   have HQ' : Aside0 (1 ≤ n ∧ n ≤ 12 ∧ 0 ≤ f ∧ f ≤ 3 ∧ 3 * f + 1 ≤ n) := ⟨HQ.out⟩
   have hlt : decide (i < (P.length : Int)) = true := decide_eq_true hi1
   have p0_ := eq_true hi0
   have p1_ := eq_true hi1
   have hw1 : wrap64 (i + 1) = i + 1 := by have := HL.out; unfold wrap64; omega
   have t1 : decide (n < 1) = false := decide_eq_false (by have := HQ'.out; omega)
   have t2 : decide (12 < n) = false := decide_eq_false (by have := HQ'.out; omega)
   have t3 : decide (f < 0) = false := decide_eq_false (by have := HQ'.out; omega)
   have t4 : decide (3 < f) = false := decide_eq_false (by have := HQ'.out; omega)
   have t5 : wrap64 (3 * f) = 3 * f := by have := HQ'.out; unfold wrap64; omega
   have t6 : wrap64 (3 * f + 1) = 3 * f + 1 := by have := HQ'.out; unfold wrap64; omega
   have t7 : decide (n < 3 * f + 1) = false := decide_eq_false (by have := HQ'.out; omega)
   cases gk with
   | zero => exact absurd HK.out (by omega)
   | succ k1 =>
   go_wp2_with fail
   go_roundg k1
   case measure => have := HK.out; omega
   case rel => exact ⟨i + 1, (by first | rfl | rw [hw1]), ⟨by have := HK.out; omega⟩, ⟨by repeat (first | exact HB.out | apply below_alloc)⟩⟩
  ·have hlt : decide (i < (P.length : Int)) = false := decide_eq_false hi1
   go_wp2_with fail
   go_ret
   exact ⟨rfl, HB.out⟩
end Go.Proofs.YtkhlndhleiaokaaDoor.MHo
namespace Go.Proofs.YtkhlndhleiaokaaDoor.MHo
open Go.RowKit Go.Proofs.YtkhlndhleiaokaaDoorW.PrintWords Go.Proofs.YtkhlndhleiaokaaDoorW.PrintLast Go.Proofs.YtkhlndhleiaokaaDoorW.PrintMore
attribute [local go_sem] mp_u32s mp_u32m mp_u8s mp_u8m max2_int min2_int max_two min_two max_three min_three max_four min_four
set_option linter.unusedVariables false
set_option linter.unusedSimpArgs false
def slices_Index_int_int.l0 : Nat → List Int → Int → Int → Int → Option (Int)
 | 0, _, _, _, _ => none
 | k + 1, x0, x1, x7, x8 => if x8 < x7 then (if 0 ≤ x8 then (if x8 < (x0.length : Int) then (if x1 = (rd x0 x8) then (some x8) else (slices_Index_int_int.l0 k x0 x1 x7 (wrap64 (x8 + 1)))) else (none)) else (none)) else (some (-1))
def slices_Index_int_int.f (k : Nat) (l0 : List Int) (a1 : Int) : Option (Int) := slices_Index_int_int.l0 k l0 a1 (l0.length : Int) 0
theorem slices_Index_int_int.mono_l : ∀ k, (∀ y0 y1 y2 y3, LeO (slices_Index_int_int.l0 k y0 y1 y2 y3) (slices_Index_int_int.l0 (k + 1) y0 y1 y2 y3))
 | 0 => fun _ _ _ _ r h => by simp [slices_Index_int_int.l0] at h
 | k + 1 => by
  have ih0 := slices_Index_int_int.mono_l k
  ·intro y0 y1 y2 y3
   unfold slices_Index_int_int.l0
   repeat' first
   | (with_reducible exact ih0 _ _ _ _)
   | (with_reducible exact LeO.refl _)
   | (with_reducible exact LeO.none _)
   | (with_reducible refine LeO.ite ?_ ?_)
   | (with_reducible refine LeO.bind ?_ (fun _ => ?_))
   | exact ih0 _ _ _ _
   | exact LeO.none _
   | refine LeO.ite ?_ ?_
   | refine LeO.bind ?_ (fun _ => ?_)
theorem slices_Index_int_int.mono : ∀ a0 a1 k, LeO (slices_Index_int_int.f k a0 a1) (slices_Index_int_int.f (k + 1) a0 a1) := by
 intro a0 a1 k
 have ih0 := slices_Index_int_int.mono_l k
 unfold slices_Index_int_int.f
 repeat' first
   | (with_reducible exact ih0 _ _ _ _)
   | (with_reducible exact LeO.refl _)
   | (with_reducible exact LeO.none _)
   | (with_reducible refine LeO.ite ?_ ?_)
   | (with_reducible refine LeO.bind ?_ (fun _ => ?_))
   | exact ih0 _ _ _ _
   | exact LeO.none _
   | refine LeO.ite ?_ ?_
   | refine LeO.bind ?_ (fun _ => ?_)
set_option maxHeartbeats 8000000 in
set_option maxRecDepth 100000 in
theorem slices_Index_int_int.calls (k : Nat) (A0 : Option Addr) (c0 : Nat) (l0 : List Int) (a1 : Int) (r : Int) (w : World) (hr0 : Kd.C (Kd.int .i64) w A0 l0.length l0) (hc0 : l0.length ≤ c0) (h : slices_Index_int_int.f k l0 a1 = some r) :
  Calls Tryd.prog 75 #[.slice A0 l0.length c0, .int .i64 a1] w fun e w' => e = .returned (.int .i64 r) ∧ Drawn0 w w' := by
 have HR0 := Aside0.mk hr0
 have HC0 := Aside0.mk hc0
 clear hr0 hc0
 have H : (slices_Index_int_int.l0 k l0 a1 (l0.length : Int) 0) = some r := h
 clear h
 have H' := Aside0.mk H
 clear H
 go_enter Tryd.func75, Tryd.ntmps75
 go_wp2
 go_loopg [8] k (fun kq v8 w' => ∃ (x8_1 : Int), v8 = .int .i64 x8_1 ∧ Aside0 (slices_Index_int_int.l0 kq l0 a1 (l0.length : Int) x8_1 = some r) ∧ Aside0 (kq ≤ k) ∧ Drawn0 w w')
 case atStart => exact ⟨(0), (by first | rfl | (simp; done) | (simp [*]; done) | (have := TNA.out; unfold wrap64; congr 1; omega) | (unfold wrap64; omega)), H', ⟨Nat.le_refl _⟩, by repeat (first | exact Drawn0.refl _ | apply Drawn0.step)⟩
 case round =>
  clear H'
  try clear p2
  obtain ⟨x8_1, rfl, HA, HK1, ⟨m1, rfl⟩⟩ := hrel
  cases gk with
  | zero => exact absurd HA.out (by simp [slices_Index_int_int.l0])
  | succ k1 =>
   have H := HA.out
   clear HA
   simp only [slices_Index_int_int.l0] at H
   by_cases c3 : x8_1 < (l0.length : Int)
   ·rw [if_pos c3] at H
    have c3b0 : decide (x8_1 < (l0.length : Int)) = true := decide_eq_true c3
    clear c3
    by_cases c4 : 0 ≤ x8_1
    ·rw [if_pos c4] at H
     have c4b0 : decide (0 ≤ x8_1) = true := decide_eq_true c4
     clear c4
     by_cases c5 : x8_1 < (l0.length : Int)
     ·rw [if_pos c5] at H
      have c5b0 : decide (x8_1 < (l0.length : Int)) = true := decide_eq_true c5
      clear c5
      by_cases c6 : a1 = (rd l0 x8_1)
      ·rw [if_pos c6] at H
       have c6b0 : (a1 == (rd l0 x8_1)) = true := beq_iff_eq.mpr c6
       have c6b1 : (a1 != (rd l0 x8_1)) = false := bne_eq_false_iff_eq.mpr c6
       clear c6
       obtain rfl := Option.some.inj H
       have p125 : 0 ≤ (x8_1 : Int) := of_decide_eq_true (by first | (with_reducible assumption) | assumption)
       have q125 : x8_1 < (l0.length : Int) := of_decide_eq_true (by first | (with_reducible assumption) | assumption)
       obtain ⟨ad125, e125, hx125_0⟩ := Kd.at_int HR0.out x8_1 p125 q125
       cases e125
       replace p125 := eq_true p125
       replace q125 := eq_true q125
       go_wp2
       go_ret
       exact ⟨by first | rfl | (simp; done) | (simp [*]; done), by repeat (first | exact Drawn0.refl _ | apply Drawn0.step)⟩
      ·rw [if_neg c6] at H
       have c6b0 : (a1 == (rd l0 x8_1)) = false := beq_eq_false_iff_ne.mpr c6
       have c6b1 : (a1 != (rd l0 x8_1)) = true := bne_iff_ne.mpr c6
       have H' := Aside0.mk H
       clear H
       have p125 : 0 ≤ (x8_1 : Int) := of_decide_eq_true (by first | (with_reducible assumption) | assumption)
       have q125 : x8_1 < (l0.length : Int) := of_decide_eq_true (by first | (with_reducible assumption) | assumption)
       obtain ⟨ad125, e125, hx125_0⟩ := Kd.at_int HR0.out x8_1 p125 q125
       cases e125
       replace p125 := eq_true p125
       replace q125 := eq_true q125
       go_wp2
       go_roundg k1
       case measure => have := HK1.out; omega
       case rel => exact ⟨(wrap64 (x8_1 + 1)), (by first | rfl | (simp; done) | (simp [*]; done) | (have := TNA.out; unfold wrap64; congr 1; omega) | (unfold wrap64; omega)), H', ⟨by have := HK1.out; omega⟩, by repeat (first | exact Drawn0.refl _ | apply Drawn0.step)⟩
     ·rw [if_neg c5] at H
      exact absurd H (by simp)
    ·rw [if_neg c4] at H
     exact absurd H (by simp)
   ·rw [if_neg c3] at H
    have c3b0 : decide (x8_1 < (l0.length : Int)) = false := decide_eq_false c3
    clear c3
    obtain rfl := Option.some.inj H
    go_wp2
    go_ret
    exact ⟨by first | rfl | (simp; done) | (simp [*]; done), by repeat (first | exact Drawn0.refl _ | apply Drawn0.step)⟩
end Go.Proofs.YtkhlndhleiaokaaDoor.MHo
set_option linter.unusedVariables false
set_option linter.unusedSimpArgs false
namespace Go.Proofs.YtkhlndhleiaokaaDoor.MHo
open Go.RowKit Go.Proofs.YtkhlndhleiaokaaDoorW.PrintWords Go.Proofs.YtkhlndhleiaokaaDoorW.PrintLast Go.Proofs.YtkhlndhleiaokaaDoorW.PrintMore
structure NetOk (P : List S60) (L : List S37) : Prop where
 p1 : 1 ≤ P.length
 p6 : P.length ≤ 6
 parts : ∀ i : Int, 0 ≤ i → i < P.length → PartOk (rd_T60 P i)
 l10 : L.length ≤ 10
 links : ∀ i : Int, 0 ≤ i → i < L.length → LinkOk P (L.take i.toNat) (rd_T37 L i)
set_option maxHeartbeats 4000000 in
set_option maxRecDepth 4000 in
theorem check_yes (A0 : Option Addr) (c0 : Nat) (P : List S60) (A1 : Option Addr) (c1 : Nat) (L : List S37) (a2 a3 a4 a5 a6 a7 a8 a9 a10 a11 a12 : Int) (d : List Int) (w : World) (hr0 : Kd.C k60 w A0 P.length P) (hc0 : P.length ≤ c0) (hr1 : Kd.C k37 w A1 L.length L) (hc1 : L.length ≤ c1) (hn : NetOk P L) (hd : plan_Dists.f 100 P L a2 a3 a4 a5 a6 a7 a8 a9 a10 a11 a12 0 = some d) (hi : slices_Index_int_int.f 100 d (-1) = some (-1)) :
  Calls Tryd.prog 62 #[.agg #[.slice A0 P.length c0, .slice A1 L.length c1, .int .i64 a2, .int .i64 a3, .int .i64 a4, .int .i64 a5, .int .i64 a6, .int .i64 a7, .int .i64 a8, .int .i64 a9, .int .i64 a10, .int .i64 a11, .int .i64 a12]] w fun e w' => e = .returned .nilIface ∧ Below w.heap.size w w' := by
 have HR0 := Aside0.mk hr0
 have HR1 := Aside0.mk hr1
 have HC0 := Aside0.mk hc0
 have HC1 := Aside0.mk hc1
 have HN := Aside0.mk hn
 have HD := Aside0.mk hd
 have HI := Aside0.mk hi
 clear hr0 hr1 hc0 hc1 hn hd hi
 go_enter Tryd.func62, Tryd.ntmps62
 go_upto_region 1 with fail
 have HO1 : Aside0 ((w.alloc (.cells #[.slice A0 P.length c0, .slice A1 L.length c1, .int .i64 a2, .int .i64 a3, .int .i64 a4, .int .i64 a5, .int .i64 a6, .int .i64 a7, .int .i64 a8, .int .i64 a9, .int .i64 a10, .int .i64 a11, .int .i64 a12] 25)).heap[w.heap.size]? = some (.cells #[.slice A0 P.length c0, .slice A1 L.length c1, .int .i64 a2, .int .i64 a3, .int .i64 a4, .int .i64 a5, .int .i64 a6, .int .i64 a7, .int .i64 a8, .int .i64 a9, .int .i64 a10, .int .i64 a11, .int .i64 a12] 25)) := ⟨heap_alloc_new _ _⟩
 have HB1 := Aside0.mk (below_alloc (Below.refl w.heap.size w) (Obj.cells #[.slice A0 P.length c0, .slice A1 L.length c1, .int .i64 a2, .int .i64 a3, .int .i64 a4, .int .i64 a5, .int .i64 a6, .int .i64 a7, .int .i64 a8, .int .i64 a9, .int .i64 a10, .int .i64 a11, .int .i64 a12] 25))
 generalize w.alloc (Obj.cells #[.slice A0 P.length c0, .slice A1 L.length c1, .int .i64 a2, .int .i64 a3, .int .i64 a4, .int .i64 a5, .int .i64 a6, .int .i64 a7, .int .i64 a8, .int .i64 a9, .int .i64 a10, .int .i64 a11, .int .i64 a12] 25) = w1 at *
 obtain ⟨bx, hbx⟩ : ∃ bx, bx = w.heap.size := ⟨_, rfl⟩
 rw [← hbx]
 rw [← hbx] at HO1
 have HBX := Aside0.mk hbx
 clear hbx
 obtain ⟨x0, x1, x2, x3, x4, x5, x6, x7, x8, x9, x10, x11, x12⟩ := cellsK13 HO1.out
 go_wp2_with fail
 refine (parts_yes A0 c0 P A1 c1 L a2 a3 a4 a5 a6 a7 a8 a9 a10 a11 a12 _ (Kd.C_below HR0.out HB1.out) HC0.out (Kd.C_below HR1.out HB1.out) HC1.out HN.out.p1 HN.out.p6 HN.out.parts).mono ?_
 rintro e w2 ⟨rfl, hb⟩
 clear x0 x1 x2 x3 x4 x5 x6 x7 x8 x9 x10 x11 x12
 have HB2 := Aside0.mk (below_step HB1.out hb)
 have HO2 := Aside0.mk ((hb.block bx (blk_lt HO1.out)).trans HO1.out)
 clear hb
 obtain ⟨x0, x1, x2, x3, x4, x5, x6, x7, x8, x9, x10, x11, x12⟩ := cellsK13 HO2.out
 go_wp2_with fail
 refine (links_yes A0 c0 P A1 c1 L a2 a3 a4 a5 a6 a7 a8 a9 a10 a11 a12 _ (Kd.C_below HR0.out HB2.out) HC0.out (Kd.C_below HR1.out HB2.out) HC1.out HN.out.l10 HN.out.links).mono ?_
 rintro e w3 ⟨rfl, hb⟩
 clear x0 x1 x2 x3 x4 x5 x6 x7 x8 x9 x10 x11 x12
 have HB3 := Aside0.mk (below_step HB2.out hb)
 have HO3 := Aside0.mk ((hb.block bx (blk_lt HO2.out)).trans HO2.out)
 clear hb
 obtain ⟨x0, x1, x2, x3, x4, x5, x6, x7, x8, x9, x10, x11, x12⟩ := cellsK13 HO3.out
 go_wp2_with fail
 refine (plan_Dists.calls 100 A0 c0 P A1 c1 L a2 a3 a4 a5 a6 a7 a8 a9 a10 a11 a12 0 d _ (Kd.C_below HR0.out HB3.out) HC0.out (Kd.C_below HR1.out HB3.out) HC1.out HD.out).mono ?_
 rintro e w4 ⟨v4, rfl, ho4, hb⟩
 obtain ⟨A4, c4, rfl⟩ := Kd.R_slice ho4
 have R4 := Aside0.mk ho4
 clear ho4
 clear x0 x1 x2 x3 x4 x5 x6 x7 x8 x9 x10 x11 x12
 have HB4 := Aside0.mk (below_step HB3.out hb)
 have HO4 := Aside0.mk ((hb.block bx (blk_lt HO3.out)).trans HO3.out)
 clear hb
 go_wp2_with fail
 refine (slices_Index_int_int.calls 100 A4 c4 d (-1) (-1) _ (Kd.R_reads' R4.out).2.2 (Kd.R_reads' R4.out).2.1 HI.out).mono ?_
 rintro e w5 ⟨rfl, hD⟩
 have hb := hD.below
 clear hD
 have HB5 := Aside0.mk (below_step HB4.out hb)
 have HO5 := Aside0.mk ((hb.block bx (blk_lt HO4.out)).trans HO4.out)
 clear hb
 go_wp2_with fail
 go_ret
 exact ⟨rfl, HB5.out⟩
theorem as_nil (t : Value) (w : World) : Calls Tryd.prog 63 #[.nilIface, t] w fun e w' => e = .returned (.bool false) ∧ w' = w := by
 go_enter Tryd.func63, Tryd.ntmps63
 go_wp2
 go_ret
 exact ⟨rfl, rfl⟩
set_option maxHeartbeats 4000000 in
set_option maxRecDepth 4000 in
theorem Check_yes (A0 : Option Addr) (c0 : Nat) (P : List S60) (A1 : Option Addr) (c1 : Nat) (L : List S37) (a2 a3 a4 a5 a6 a7 a8 a9 a10 a11 a12 : Int) (d : List Int) (w : World) (hr0 : Kd.C k60 w A0 P.length P) (hc0 : P.length ≤ c0) (hr1 : Kd.C k37 w A1 L.length L) (hc1 : L.length ≤ c1) (hn : NetOk P L) (hd : plan_Dists.f 100 P L a2 a3 a4 a5 a6 a7 a8 a9 a10 a11 a12 0 = some d) (hi : slices_Index_int_int.f 100 d (-1) = some (-1)) :
  Calls Tryd.prog 53 #[.agg #[.slice A0 P.length c0, .slice A1 L.length c1, .int .i64 a2, .int .i64 a3, .int .i64 a4, .int .i64 a5, .int .i64 a6, .int .i64 a7, .int .i64 a8, .int .i64 a9, .int .i64 a10, .int .i64 a11, .int .i64 a12]] w fun e w' => e = .returned (.tuple #[.int .i64 0, .int .i64 0]) ∧ Below w.heap.size w w' := by
 have hc := fun (W : World) (hB : Below w.heap.size w W) => check_yes A0 c0 P A1 c1 L a2 a3 a4 a5 a6 a7 a8 a9 a10 a11 a12 d W (Kd.C_below hr0 hB) hc0 (Kd.C_below hr1 hB) hc1 hn hd hi
 have HC := Aside0.mk hc
 clear hc hr0 hr1 hc0 hc1 hn hd hi
 go_enter Tryd.func53, Tryd.ntmps53
 have HB1 := Aside0.mk (below_alloc (Below.refl w.heap.size w) (Obj.cells #[.slice A0 P.length c0, .slice A1 L.length c1, .int .i64 a2, .int .i64 a3, .int .i64 a4, .int .i64 a5, .int .i64 a6, .int .i64 a7, .int .i64 a8, .int .i64 a9, .int .i64 a10, .int .i64 a11, .int .i64 a12] 25))
 go_wp2_with fail
 refine (HC.out _ HB1.out).mono ?_
 rintro e w2 ⟨rfl, hb⟩
 have HB2 := Aside0.mk (below_step HB1.out hb)
 clear hb
 go_wp2_with fail
 refine (as_nil _ _).mono ?_
 rintro e w3 ⟨rfl, rfl⟩
 go_wp2_with fail
 go_ret2
 exact ⟨rfl, by repeat (first | exact HB2.out | apply below_alloc)⟩
set_option maxHeartbeats 4000000 in
set_option maxRecDepth 4000 in
theorem right_yes (A0 : Option Addr) (c0 : Nat) (P : List S60) (A1 : Option Addr) (c1 : Nat) (L : List S37) (a2 a3 a4 a5 a6 a7 a8 a9 a10 a11 a12 : Int) (d : List Int) (w : World) (hr0 : Kd.C k60 w A0 P.length P) (hc0 : P.length ≤ c0) (hr1 : Kd.C k37 w A1 L.length L) (hc1 : L.length ≤ c1) (hn : NetOk P L) (hd : plan_Dists.f 100 P L a2 a3 a4 a5 a6 a7 a8 a9 a10 a11 a12 0 = some d) (hi : slices_Index_int_int.f 100 d (-1) = some (-1)) :
  Calls Tryd.prog 38 #[.agg #[.slice A0 P.length c0, .slice A1 L.length c1, .int .i64 a2, .int .i64 a3, .int .i64 a4, .int .i64 a5, .int .i64 a6, .int .i64 a7, .int .i64 a8, .int .i64 a9, .int .i64 a10, .int .i64 a11, .int .i64 a12]] w fun e w' => e = .returned (.bool true) ∧ Below w.heap.size w w' := by
 have hc := fun (W : World) (hB : Below w.heap.size w W) => Check_yes A0 c0 P A1 c1 L a2 a3 a4 a5 a6 a7 a8 a9 a10 a11 a12 d W (Kd.C_below hr0 hB) hc0 (Kd.C_below hr1 hB) hc1 hn hd hi
 have HC := Aside0.mk hc
 clear hc hr0 hr1 hc0 hc1 hn hd hi
 go_enter Tryd.func38, Tryd.ntmps38
 have HB1 := Aside0.mk (below_alloc (Below.refl w.heap.size w) (Obj.cells #[.slice A0 P.length c0, .slice A1 L.length c1, .int .i64 a2, .int .i64 a3, .int .i64 a4, .int .i64 a5, .int .i64 a6, .int .i64 a7, .int .i64 a8, .int .i64 a9, .int .i64 a10, .int .i64 a11, .int .i64 a12] 25))
 go_wp2_with fail
 refine (HC.out _ HB1.out).mono ?_
 rintro e w2 ⟨rfl, hb⟩
 have HB2 := Aside0.mk (below_step HB1.out hb)
 clear hb
 go_wp2_with fail
 go_ret
 exact ⟨rfl, HB2.out⟩
def sideB (P : List S60) (T : List S37) (part : Int) (p : S35) : Bool := !(p.f0 == p.f1) && (decide (0 ≤ part) && (decide (part < P.length) && (decide (0 ≤ p.f0) && (decide (p.f0 < (rd_T60 P part).f0) && (decide (0 ≤ p.f1) && (decide (p.f1 < (rd_T60 P part).f0) && (!T.any (takes part p.f0) && !T.any (takes part p.f1))))))))
def linkB (P : List S60) (T : List S37) (x : S37) : Bool := decide (0 ≤ x.f0) && (decide (x.f0 < x.f1) && (decide (x.f1 < P.length) && (!T.any (sameEnds x.f0 x.f1) && (sideB P T x.f0 x.f2 && sideB P T x.f1 x.f3))))
def partB (p : S60) : Bool := decide (1 ≤ p.f0) && (decide (p.f0 ≤ 12) && (decide (0 ≤ p.f1) && (decide (p.f1 ≤ 3) && decide (3 * p.f1 + 1 ≤ p.f0))))
def netB (P : List S60) (L : List S37) : Bool := decide (1 ≤ P.length) && (decide (P.length ≤ 6) && ((List.range P.length).all (fun i => partB (rd_T60 P i)) && (decide (L.length ≤ 10) && (List.range L.length).all (fun i => linkB P (L.take i) (rd_T37 L i)))))
theorem sideB_ok {P : List S60} {T : List S37} {part : Int} {p : S35} (h : sideB P T part p = true) : SideOk P T part p := by
 unfold sideB at h
 simp only [Bool.and_eq_true, decide_eq_true_eq, Bool.not_eq_true'] at h
 obtain ⟨h1, h2, h3, h4, h5, h6, h7, h8, h9⟩ := h
 exact ⟨h1, h2, h3, h4, h5, h6, h7, h8, h9⟩
theorem linkB_ok {P : List S60} {T : List S37} {x : S37} (h : linkB P T x = true) : LinkOk P T x := by
 unfold linkB at h
 simp only [Bool.and_eq_true, decide_eq_true_eq, Bool.not_eq_true'] at h
 obtain ⟨h1, h2, h3, h4, h5, h6⟩ := h
 exact ⟨h1, h2, h3, h4, sideB_ok h5, sideB_ok h6⟩
theorem netB_ok {P : List S60} {L : List S37} (h : netB P L = true) : NetOk P L := by
 unfold netB at h
 simp only [Bool.and_eq_true, decide_eq_true_eq, List.all_eq_true, List.mem_range] at h
 obtain ⟨h1, h2, h3, h4, h5⟩ := h
 refine ⟨h1, h2, fun i i0 i1 => ?_, h4, fun i i0 i1 => ?_⟩
 ·obtain ⟨n, rfl⟩ := Int.eq_ofNat_of_zero_le i0
  have := h3 n (by omega)
  unfold partB at this
  simp only [Bool.and_eq_true, decide_eq_true_eq] at this
  exact this
 ·obtain ⟨n, rfl⟩ := Int.eq_ofNat_of_zero_le i0
  exact linkB_ok (h5 n (by omega))
end Go.Proofs.YtkhlndhleiaokaaDoor.MHo
