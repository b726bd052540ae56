/- Texts that ClockTick leans on, laid together by a program (wip/d/merge.py): MHox77, MHox78, MHox81, MHox82, MHox83, MHox84. -/
import Derived.Test.YtkhlndhleiaokaaDoorZClockTick1
import Derived.Test.YtkhlndhleiaokaaDoorZClockTick6
import Derived.Test.YtkhlndhleiaokaaDoorZClockTick5
namespace Go.Proofs.YtkhlndhleiaokaaDoor.MHo
open Go.RowKit Go.Proofs.YtkhlndhleiaokaaDoorW.PrintWords Go.Proofs.YtkhlndhleiaokaaDoorW.PrintLast Go.Proofs.YtkhlndhleiaokaaDoorW.PrintMore
attribute [local go_sem] mp_u32s mp_u32m mp_u8s mp_u8m max2_int min2_int max_two min_two max_three min_three max_four min_four   -- for this text's walks alone
set_option linter.unusedVariables false
set_option linter.unusedSimpArgs false

/-! ### bounds_Reckon: function 59 -/
def bounds_Reckon.f (l0_0 : List (S60)) (l0_1 : List (S37)) (a0_2 : Int) (a0_3 : Int) (a0_4 : Int) (a0_5 : Int) (a0_6 : Int) (a0_7 : Int) (a0_8 : Int) (a0_9 : Int) (a0_10 : Int) (a0_11 : Int) (a0_12 : Int) : Option (Int × Int × Int × Int × Int × Int × Int) := (bounds_part.f (wrap64 ((wrap64 (2 * a0_6)) * a0_2))).bind fun t445 => ((bounds_part.f (wrap64 (a0_6 * a0_2))).bind fun t446 => ((bounds_part.f (wrap64 ((wrap64 (2 * (wrap64 (t445 + 1)))) * (wrap64 (a0_7 + a0_6))))).bind fun t448 => (some (wrap64 (t445 + 1), wrap64 (2 * (wrap64 (t445 + 1))), t446, wrap64 ((wrap64 ((wrap64 (2 * (wrap64 (2 * (wrap64 (t445 + 1)))))) + (wrap64 (2 * t446)))) + 2), wrap64 ((wrap64 ((wrap64 (2 * a0_8)) * (wrap64 ((wrap64 ((wrap64 (2 * (wrap64 (2 * (wrap64 (t445 + 1)))))) + (wrap64 (2 * t446)))) + 2)))) + (wrap64 (2 * (wrap64 (2 * (wrap64 (t445 + 1))))))), wrap64 ((wrap64 ((wrap64 ((wrap64 (2 * (wrap64 (t445 + 1)))) + (wrap64 (t445 + 1)))) + t448)) + 1), wrap64 (a0_8 + 1)))))
def bounds_Reckon.T2 : Bool × List (List Nat × List Nat) := (true, [([], []), ([0], [0]), ([], []), ([1, 2], [1, 2]), ([3], [3]), ([4], [4]), ([], []), ([], []), ([6, 7], [6, 7]), ([8, 4], [8]), ([], []), ([10], [10]), ([11], [11]), ([5, 9, 12], [5, 9, 12]), ([], []), ([14, 13, 9, 0, 1, 2, 3, 4, 5, 6, 7, 8, 9, 10, 11, 12, 13, 14], [13, 14])])
def bounds_Reckon.B2 : List Nat := [0, 1, 0, 7, 15, 31, 0, 0, 192, 479, 0, 1024, 3072, 8191, 0, 32767]
theorem bounds_Reckon.tab2 : rtab .any (opsOf Tryd.f59 2) = bounds_Reckon.T2 := by kernel_rfl
theorem bounds_Reckon.bits2 : waitsOk bounds_Reckon.T2.2 bounds_Reckon.B2 = true := by kernel_rfl
def bounds_Reckon.T6 : Bool × List (List Nat × List Nat) := (true, [([], []), ([0], [0]), ([], []), ([2], [2]), ([1, 3], [1, 3]), ([], []), ([5], [5]), ([], []), ([7], [7]), ([], []), ([9], [9]), ([8, 10], [8, 10]), ([6, 11], [6, 11]), ([12], [12]), ([4, 13], [4, 13]), ([14], [14]), ([0, 1, 2, 3, 4, 5, 6, 7, 8, 9, 10, 11, 12, 13, 14, 15], []), ([16, 15, 13, 0, 1, 2, 3, 4, 5, 6, 7, 8, 9, 10, 11, 12, 13, 14, 15], [15, 16])])
def bounds_Reckon.B6 : List Nat := [0, 1, 0, 4, 15, 0, 32, 0, 128, 0, 512, 1920, 4064, 8160, 16383, 32767, 65535, 131071]
theorem bounds_Reckon.tab6 : rtab .any (opsOf Tryd.f59 6) = bounds_Reckon.T6 := by kernel_rfl
theorem bounds_Reckon.bits6 : waitsOk bounds_Reckon.T6.2 bounds_Reckon.B6 = true := by kernel_rfl
set_option maxHeartbeats 8000000 in
set_option maxRecDepth 100000 in
theorem bounds_Reckon.calls (A0_0 : Option Addr) (c0_0 : Nat) (l0_0 : List (S60)) (A0_1 : Option Addr) (c0_1 : Nat) (l0_1 : List (S37)) (a0_2 : Int) (a0_3 : Int) (a0_4 : Int) (a0_5 : Int) (a0_6 : Int) (a0_7 : Int) (a0_8 : Int) (a0_9 : Int) (a0_10 : Int) (a0_11 : Int) (a0_12 : Int) (r1 : Int) (r2 : Int) (r3 : Int) (r4 : Int) (r5 : Int) (r6 : Int) (r7 : Int) (w : World) (hr0_0 : Kd.C k60 w A0_0 l0_0.length l0_0) (hc0_0 : l0_0.length ≤ c0_0) (hr0_1 : Kd.C k37 w A0_1 l0_1.length l0_1) (hc0_1 : l0_1.length ≤ c0_1) (h : bounds_Reckon.f l0_0 l0_1 a0_2 a0_3 a0_4 a0_5 a0_6 a0_7 a0_8 a0_9 a0_10 a0_11 a0_12 = some (r1, r2, r3, r4, r5, r6, r7)) :
  Calls Tryd.prog 59 #[.agg #[.slice A0_0 l0_0.length c0_0, .slice A0_1 l0_1.length c0_1, .int .i64 a0_2, .int .i64 a0_3, .int .i64 a0_4, .int .i64 a0_5, .int .i64 a0_6, .int .i64 a0_7, .int .i64 a0_8, .int .i64 a0_9, .int .i64 a0_10, .int .i64 a0_11, .int .i64 a0_12]] w fun e w' => e = .returned (.agg #[.int .i64 r1, .int .i64 r2, .int .i64 r3, .int .i64 r4, .int .i64 r5, .int .i64 r6, .int .i64 r7]) ∧ Below w.heap.size w w' := by
 have hu25 := Tryd.underlying25
 have hu67 := Tryd.underlying67
 have HR0_0 := Aside0.mk hr0_0
 have HC0_0 := Aside0.mk hc0_0
 clear hr0_0 hc0_0
 have HR0_1 := Aside0.mk hr0_1
 have HC0_1 := Aside0.mk hc0_1
 clear hr0_1 hc0_1
 have HB := Aside0.mk (Below.refl w.heap.size w)
 have H : ((bounds_part.f (wrap64 ((wrap64 (2 * a0_6)) * a0_2))).bind fun t445 => ((bounds_part.f (wrap64 (a0_6 * a0_2))).bind fun t446 => ((bounds_part.f (wrap64 ((wrap64 (2 * (wrap64 (t445 + 1)))) * (wrap64 (a0_7 + a0_6))))).bind fun t448 => (some (wrap64 (t445 + 1), wrap64 (2 * (wrap64 (t445 + 1))), t446, wrap64 ((wrap64 ((wrap64 (2 * (wrap64 (2 * (wrap64 (t445 + 1)))))) + (wrap64 (2 * t446)))) + 2), wrap64 ((wrap64 ((wrap64 (2 * a0_8)) * (wrap64 ((wrap64 ((wrap64 (2 * (wrap64 (2 * (wrap64 (t445 + 1)))))) + (wrap64 (2 * t446)))) + 2)))) + (wrap64 (2 * (wrap64 (2 * (wrap64 (t445 + 1))))))), wrap64 ((wrap64 ((wrap64 ((wrap64 (2 * (wrap64 (t445 + 1)))) + (wrap64 (t445 + 1)))) + t448)) + 1), wrap64 (a0_8 + 1)))))) = some (r1, r2, r3, r4, r5, r6, r7) := h
 clear h
 replace H := Option.bind_eq_some_iff.mp H
 obtain ⟨t445, A20, H⟩ := H
 replace H : ((bounds_part.f (wrap64 (a0_6 * a0_2))).bind fun t446 => ((bounds_part.f (wrap64 ((wrap64 (2 * (wrap64 (t445 + 1)))) * (wrap64 (a0_7 + a0_6))))).bind fun t448 => (some (wrap64 (t445 + 1), wrap64 (2 * (wrap64 (t445 + 1))), t446, wrap64 ((wrap64 ((wrap64 (2 * (wrap64 (2 * (wrap64 (t445 + 1)))))) + (wrap64 (2 * t446)))) + 2), wrap64 ((wrap64 ((wrap64 (2 * a0_8)) * (wrap64 ((wrap64 ((wrap64 (2 * (wrap64 (2 * (wrap64 (t445 + 1)))))) + (wrap64 (2 * t446)))) + 2)))) + (wrap64 (2 * (wrap64 (2 * (wrap64 (t445 + 1))))))), wrap64 ((wrap64 ((wrap64 ((wrap64 (2 * (wrap64 (t445 + 1)))) + (wrap64 (t445 + 1)))) + t448)) + 1), wrap64 (a0_8 + 1))))) = some (r1, r2, r3, r4, r5, r6, r7) := H
 have A2 := Aside0.mk A20
 clear A20
 replace H := Option.bind_eq_some_iff.mp H
 obtain ⟨t446, A30, H⟩ := H
 replace H : ((bounds_part.f (wrap64 ((wrap64 (2 * (wrap64 (t445 + 1)))) * (wrap64 (a0_7 + a0_6))))).bind fun t448 => (some (wrap64 (t445 + 1), wrap64 (2 * (wrap64 (t445 + 1))), t446, wrap64 ((wrap64 ((wrap64 (2 * (wrap64 (2 * (wrap64 (t445 + 1)))))) + (wrap64 (2 * t446)))) + 2), wrap64 ((wrap64 ((wrap64 (2 * a0_8)) * (wrap64 ((wrap64 ((wrap64 (2 * (wrap64 (2 * (wrap64 (t445 + 1)))))) + (wrap64 (2 * t446)))) + 2)))) + (wrap64 (2 * (wrap64 (2 * (wrap64 (t445 + 1))))))), wrap64 ((wrap64 ((wrap64 ((wrap64 (2 * (wrap64 (t445 + 1)))) + (wrap64 (t445 + 1)))) + t448)) + 1), wrap64 (a0_8 + 1)))) = some (r1, r2, r3, r4, r5, r6, r7) := H
 have A3 := Aside0.mk A30
 clear A30
 replace H := Option.bind_eq_some_iff.mp H
 obtain ⟨t448, A40, H⟩ := H
 replace H : (some (wrap64 (t445 + 1), wrap64 (2 * (wrap64 (t445 + 1))), t446, wrap64 ((wrap64 ((wrap64 (2 * (wrap64 (2 * (wrap64 (t445 + 1)))))) + (wrap64 (2 * t446)))) + 2), wrap64 ((wrap64 ((wrap64 (2 * a0_8)) * (wrap64 ((wrap64 ((wrap64 (2 * (wrap64 (2 * (wrap64 (t445 + 1)))))) + (wrap64 (2 * t446)))) + 2)))) + (wrap64 (2 * (wrap64 (2 * (wrap64 (t445 + 1))))))), wrap64 ((wrap64 ((wrap64 ((wrap64 (2 * (wrap64 (t445 + 1)))) + (wrap64 (t445 + 1)))) + t448)) + 1), wrap64 (a0_8 + 1))) = some (r1, r2, r3, r4, r5, r6, r7) := H
 have A4 := Aside0.mk A40
 clear A40
 simp only [Option.some.injEq, Prod.mk.injEq] at H
 obtain ⟨rfl, rfl, rfl, rfl, rfl, rfl, rfl⟩ := H
 go_enter Tryd.func59, Tryd.ntmps59
 try go_wp2_with (first | ((with_reducible refine gate_dst (N := 1) rfl ?_); refine box_event ?hg (N := 1) ?hd (cs := #[.slice A0_0 l0_0.length c0_0, .slice A0_1 l0_1.length c0_1, .int .i64 a0_2, .int .i64 a0_3, .int .i64 a0_4, .int .i64 a0_5, .int .i64 a0_6, .int .i64 a0_7, .int .i64 a0_8, .int .i64 a0_9, .int .i64 a0_10, .int .i64 a0_11, .int .i64 a0_12]) (t := 25) ?hr ?_; (case hd => rfl); (case hg => rfl); (case hr => first | (go_simp; done) | (go_simp; rfl)); intro gb443 hg w5 hbox hb; have n0_ := Aside0.mk (below_step (by repeat (first | (with_reducible first | exact HB.out | apply below_alloc | apply pw_below_drewN | apply below_drew1) | exact HB.out)) hb); have n1_ := Aside0.mk (hbox); have n2_ := Aside0.mk ((by rw [hg]; exact (below_size (by repeat (first | (with_reducible first | exact HB.out | apply below_alloc | apply pw_below_drewN | apply below_drew1) | exact HB.out))) : w.heap.size ≤ gb443)); have n3_ := Aside0.mk ((by rw [hg]; exact (below_size (by repeat (first | (with_reducible first | exact HB.out | apply below_alloc | apply pw_below_drewN | apply below_drew1) | exact HB.out))) : w.heap.size ≤ gb443)); clear HB; have HB := n0_; have BK443 := n1_; have GW443 := n2_; have GE443 := n3_; clear n0_ n1_ n2_ n3_; clear hb hbox hg) | ((with_reducible refine gate_dst (N := 2) rfl ?_); refine box_event ?hg (N := 2) ?hd (cs := #[.int .i64 0, .int .i64 0, .int .i64 0, .int .i64 0, .int .i64 0, .int .i64 0, .int .i64 0]) (t := 67) ?hr ?_; (case hd => rfl); (case hg => rfl); (case hr => first | (go_simp; done) | (go_simp; rfl)); intro gb444 hg w6 hbox hb; have n0_ := Aside0.mk (blk_below (g := gb443) (o := .cells #[.slice A0_0 l0_0.length c0_0, .slice A0_1 l0_1.length c0_1, .int .i64 a0_2, .int .i64 a0_3, .int .i64 a0_4, .int .i64 a0_5, .int .i64 a0_6, .int .i64 a0_7, .int .i64 a0_8, .int .i64 a0_9, .int .i64 a0_10, .int .i64 a0_11, .int .i64 a0_12] 25 (0, 0)) (by (with_reducible repeat (first | refine blk_drewN ?_ _ | refine blk_drew ?_ | refine blk_alloc ?_ _)); exact BK443.out) hb); have n1_ := Aside0.mk (below_step (by repeat (first | (with_reducible first | exact HB.out | apply below_alloc | apply pw_below_drewN | apply below_drew1 | refine below_set ?_ GE443.out) | exact HB.out)) hb); have n2_ := Aside0.mk (hbox); have n3_ := Aside0.mk ((by rw [hg]; exact (below_size (by repeat (first | (with_reducible first | exact HB.out | apply below_alloc | apply pw_below_drewN | apply below_drew1 | refine below_set ?_ GE443.out) | exact HB.out))) : w.heap.size ≤ gb444)); have n4_ := Aside0.mk ((by rw [hg]; exact (below_size (by repeat (first | (with_reducible first | exact HB.out | apply below_alloc | apply pw_below_drewN | apply below_drew1 | refine below_set ?_ GE443.out) | exact HB.out))) : w.heap.size ≤ gb444)); have n5_ := Aside0.mk ((by rw [hg]; exact Nat.ne_of_lt (blk_lt (g := gb443) (o := .cells #[.slice A0_0 l0_0.length c0_0, .slice A0_1 l0_1.length c0_1, .int .i64 a0_2, .int .i64 a0_3, .int .i64 a0_4, .int .i64 a0_5, .int .i64 a0_6, .int .i64 a0_7, .int .i64 a0_8, .int .i64 a0_9, .int .i64 a0_10, .int .i64 a0_11, .int .i64 a0_12] 25 (0, 0)) (by (with_reducible repeat (first | refine blk_drewN ?_ _ | refine blk_drew ?_ | refine blk_alloc ?_ _)); exact BK443.out)) : gb443 ≠ gb444)); have n6_ := Aside0.mk ((by rw [hg]; exact Nat.ne_of_gt (blk_lt (g := gb443) (o := .cells #[.slice A0_0 l0_0.length c0_0, .slice A0_1 l0_1.length c0_1, .int .i64 a0_2, .int .i64 a0_3, .int .i64 a0_4, .int .i64 a0_5, .int .i64 a0_6, .int .i64 a0_7, .int .i64 a0_8, .int .i64 a0_9, .int .i64 a0_10, .int .i64 a0_11, .int .i64 a0_12] 25 (0, 0)) (by (with_reducible repeat (first | refine blk_drewN ?_ _ | refine blk_drew ?_ | refine blk_alloc ?_ _)); exact BK443.out)) : gb444 ≠ gb443)); clear BK443; clear HB; have BK443 := n0_; have HB := n1_; have BK444 := n2_; have GW444 := n3_; have GE444 := n4_; have NB443_444 := n5_; have NB444_443 := n6_; clear n0_ n1_ n2_ n3_ n4_ n5_ n6_; clear hb hbox hg))
 have n0_ := Aside0.mk (blk_drew BK443.out)
 have n1_ := Aside0.mk (blk_drew BK444.out)
 have n2_ := Aside0.mk (below_drew1 HB.out)
 clear BK443
 clear BK444
 clear HB
 have BK443 := n0_
 have BK444 := n1_
 have HB := n2_
 clear n0_ n1_ n2_
 refine start_ (n := 6) (S := fun w' => w'.cell? ⟨gb443, 0, none⟩ = some (.slice A0_0 l0_0.length c0_0) ∧ w'.cell? ⟨gb443, 1, none⟩ = some (.slice A0_1 l0_1.length c0_1) ∧ w'.cell? ⟨gb443, 2, none⟩ = some (.int .i64 a0_2) ∧ w'.cell? ⟨gb443, 3, none⟩ = some (.int .i64 a0_3) ∧ w'.cell? ⟨gb443, 4, none⟩ = some (.int .i64 a0_4) ∧ w'.cell? ⟨gb443, 5, none⟩ = some (.int .i64 a0_5) ∧ w'.cell? ⟨gb443, 6, none⟩ = some (.int .i64 a0_6) ∧ w'.cell? ⟨gb443, 7, none⟩ = some (.int .i64 a0_7) ∧ w'.cell? ⟨gb443, 8, none⟩ = some (.int .i64 a0_8) ∧ w'.cell? ⟨gb443, 9, none⟩ = some (.int .i64 a0_9) ∧ w'.cell? ⟨gb443, 10, none⟩ = some (.int .i64 a0_10) ∧ w'.cell? ⟨gb443, 11, none⟩ = some (.int .i64 a0_11) ∧ w'.cell? ⟨gb443, 12, none⟩ = some (.int .i64 a0_12)) (ds := []) #[false, false, false, false, false, false] (by kernel_rfl) rfl rfl ⟨(blk_cell BK443.out 0).trans rfl, (blk_cell BK443.out 1).trans rfl, (blk_cell BK443.out 2).trans rfl, (blk_cell BK443.out 3).trans rfl, (blk_cell BK443.out 4).trans rfl, (blk_cell BK443.out 5).trans rfl, (blk_cell BK443.out 6).trans rfl, (blk_cell BK443.out 7).trans rfl, (blk_cell BK443.out 8).trans rfl, (blk_cell BK443.out 9).trans rfl, (blk_cell BK443.out 10).trans rfl, (blk_cell BK443.out 11).trans rfl, (blk_cell BK443.out 12).trans rfl⟩ (fun hHeld => ?_)
 generalize w6.drew = w7 at BK443 BK444 HB hHeld ⊢
 refine pure_ (i := 0) (N := some 6) (v := ?_) (a' := ?_) #[true, false, false, false, false, false] rfl rfl (by kernel_rfl) (fun _ _ _ h => h) (Or.inl ⟨by rfl, ?_⟩) ?_ ?_
 rotate_left
 ·intro w'
  go_simp
  with_reducible rfl
 rotate_left
 ·simp only [Act.put, List.setIfInBounds_toArray, List.set_cons_zero, List.set_cons_succ, i64_w, i32_w]
  rfl
 refine pure_ (i := 2) (N := some 8) (v := ?_) (a' := ?_) #[true, false, true, false, false, false] rfl rfl (by kernel_rfl) (fun _ _ _ h => h) (Or.inl ⟨by rfl, ?_⟩) ?_ ?_
 rotate_left
 ·intro w'
  go_simp
  with_reducible rfl
 rotate_left
 ·simp only [Act.put, List.setIfInBounds_toArray, List.set_cons_zero, List.set_cons_succ, i64_w, i32_w]
  rfl
 refine take_ (i := 1) (N := some 7) (v := ?_) (a' := ?_) #[true, true, true, false, false, false] rfl rfl (by kernel_rfl) (fun _ _ _ h => h) (Or.inl ⟨by rfl, ?_⟩) hHeld ?_ ?_
 rotate_left
 ·rintro w' ⟨s0, s1, s2, s3, s4, s5, s6, s7, s8, s9, s10, s11, s12⟩
  go_simp
  with_reducible rfl
 rotate_left
 ·simp only [Act.put, List.setIfInBounds_toArray, List.set_cons_zero, List.set_cons_succ, i64_w, i32_w]
  rfl
 refine pure_ (i := 4) (N := some 3) (v := ?_) (a' := ?_) #[true, true, true, false, true, false] rfl rfl (by kernel_rfl) (fun _ _ _ h => h) (Or.inl ⟨by rfl, ?_⟩) ?_ ?_
 rotate_left
 ·intro w'
  go_simp
  with_reducible rfl
 rotate_left
 ·simp only [Act.put, List.setIfInBounds_toArray, List.set_cons_zero, List.set_cons_succ, i64_w, i32_w]
  rfl
 refine take_ (i := 3) (N := some 9) (v := ?_) (a' := ?_) #[true, true, true, true, true, false] rfl rfl (by kernel_rfl) (fun _ _ _ h => h) (Or.inl ⟨by rfl, ?_⟩) hHeld ?_ ?_
 rotate_left
 ·rintro w' ⟨s0, s1, s2, s3, s4, s5, s6, s7, s8, s9, s10, s11, s12⟩
  go_simp
  with_reducible rfl
 rotate_left
 ·simp only [Act.put, List.setIfInBounds_toArray, List.set_cons_zero, List.set_cons_succ, i64_w, i32_w]
  rfl
 refine pure_ (i := 5) (N := some 4) (v := ?_) (a' := ?_) #[true, true, true, true, true, true] rfl rfl (by kernel_rfl) (fun _ _ _ h => h) (Or.inl ⟨by rfl, ?_⟩) ?_ ?_
 rotate_left
 ·intro w'
  go_simp
  with_reducible rfl
 rotate_left
 ·simp only [Act.put, List.setIfInBounds_toArray, List.set_cons_zero, List.set_cons_succ, i64_w, i32_w]
  rfl
 refine done_ (by kernel_rfl) ?_
 try go_wp2
 have n0_ := Aside0.mk (blk_drew BK443.out)
 have n1_ := Aside0.mk (blk_drew BK444.out)
 have n2_ := Aside0.mk (below_drew1 HB.out)
 clear BK443
 clear BK444
 clear HB
 have BK443 := n0_
 have BK444 := n1_
 have HB := n2_
 clear n0_ n1_ n2_
 refine start_ (n := 16) (S := fun w' => w'.cell? ⟨gb443, 0, none⟩ = some (.slice A0_0 l0_0.length c0_0) ∧ w'.cell? ⟨gb443, 1, none⟩ = some (.slice A0_1 l0_1.length c0_1) ∧ w'.cell? ⟨gb443, 2, none⟩ = some (.int .i64 a0_2) ∧ w'.cell? ⟨gb443, 3, none⟩ = some (.int .i64 a0_3) ∧ w'.cell? ⟨gb443, 4, none⟩ = some (.int .i64 a0_4) ∧ w'.cell? ⟨gb443, 5, none⟩ = some (.int .i64 a0_5) ∧ w'.cell? ⟨gb443, 6, none⟩ = some (.int .i64 a0_6) ∧ w'.cell? ⟨gb443, 7, none⟩ = some (.int .i64 a0_7) ∧ w'.cell? ⟨gb443, 8, none⟩ = some (.int .i64 a0_8) ∧ w'.cell? ⟨gb443, 9, none⟩ = some (.int .i64 a0_9) ∧ w'.cell? ⟨gb443, 10, none⟩ = some (.int .i64 a0_10) ∧ w'.cell? ⟨gb443, 11, none⟩ = some (.int .i64 a0_11) ∧ w'.cell? ⟨gb443, 12, none⟩ = some (.int .i64 a0_12)) (ds := []) #[false, false, false, false, false, false, false, false, false, false, false, false, false, false, false, false] (by kernel_rfl) rfl rfl ⟨(blk_cell BK443.out 0).trans rfl, (blk_cell BK443.out 1).trans rfl, (blk_cell BK443.out 2).trans rfl, (blk_cell BK443.out 3).trans rfl, (blk_cell BK443.out 4).trans rfl, (blk_cell BK443.out 5).trans rfl, (blk_cell BK443.out 6).trans rfl, (blk_cell BK443.out 7).trans rfl, (blk_cell BK443.out 8).trans rfl, (blk_cell BK443.out 9).trans rfl, (blk_cell BK443.out 10).trans rfl, (blk_cell BK443.out 11).trans rfl, (blk_cell BK443.out 12).trans rfl⟩ (fun hHeld => ?_); refine with_tabW bounds_Reckon.tab2 bounds_Reckon.bits2 (fun HT_ HW_ => ?_)
 generalize w7.drew = w8 at BK443 BK444 HB hHeld ⊢
 refine pure_ (i := 0) (N := some 10) (v := ?_) (a' := ?_) #[true, false, false, false, false, false, false, false, false, false, false, false, false, false, false, false] rfl rfl (any_of HT_.out (by kernel_rfl)) (fun _ _ _ h => h) (Or.inl ⟨by rfl, ?_⟩) ?_ ?_
 rotate_left
 ·intro w'
  go_simp
  with_reducible rfl
 rotate_left
 ·simp only [Act.put, List.setIfInBounds_toArray, List.set_cons_zero, List.set_cons_succ, i64_w, i32_w]
  rfl
 refine pure_ (i := 1) (N := some 11) (v := ?_) (a' := ?_) #[true, true, false, false, false, false, false, false, false, false, false, false, false, false, false, false] rfl rfl (any_of HT_.out (by kernel_rfl)) (fun _ _ _ h => h) (Or.inl ⟨by rfl, ?_⟩) ?_ ?_
 rotate_left
 ·intro w'
  go_simp
  with_reducible rfl
 rotate_left
 ·simp only [Act.put, List.setIfInBounds_toArray, List.set_cons_zero, List.set_cons_succ, i64_w, i32_w]
  rfl
 refine pure_ (i := 2) (N := some 12) (v := ?_) (a' := ?_) #[true, true, true, false, false, false, false, false, false, false, false, false, false, false, false, false] rfl rfl (any_of HT_.out (by kernel_rfl)) (fun _ _ _ h => h) (Or.inl ⟨by rfl, ?_⟩) ?_ ?_
 rotate_left
 ·intro w'
  go_simp
  with_reducible rfl
 rotate_left
 ·simp only [Act.put, List.setIfInBounds_toArray, List.set_cons_zero, List.set_cons_succ, i64_w, i32_w]
  rfl
 refine pure_ (i := 3) (N := some 13) (v := ?_) (a' := ?_) #[true, true, true, true, false, false, false, false, false, false, false, false, false, false, false, false] rfl rfl (any_of HT_.out (by kernel_rfl)) (fun _ _ _ h => h) (Or.inl ⟨by rfl, ?_⟩) ?_ ?_
 rotate_left
 ·intro w'
  go_simp
  with_reducible rfl
 rotate_left
 ·simp only [Act.put, List.setIfInBounds_toArray, List.set_cons_zero, List.set_cons_succ, i64_w, i32_w]
  rfl
 refine pure_ (i := 6) (N := some 16) (v := ?_) (a' := ?_) #[true, true, true, true, false, false, true, false, false, false, false, false, false, false, false, false] rfl rfl (any_of HT_.out (by kernel_rfl)) (fun _ _ _ h => h) (Or.inl ⟨by rfl, ?_⟩) ?_ ?_
 rotate_left
 ·intro w'
  go_simp
  with_reducible rfl
 rotate_left
 ·simp only [Act.put, List.setIfInBounds_toArray, List.set_cons_zero, List.set_cons_succ, i64_w, i32_w]
  rfl
 refine pure_ (i := 7) (N := some 17) (v := ?_) (a' := ?_) #[true, true, true, true, false, false, true, true, false, false, false, false, false, false, false, false] rfl rfl (any_of HT_.out (by kernel_rfl)) (fun _ _ _ h => h) (Or.inl ⟨by rfl, ?_⟩) ?_ ?_
 rotate_left
 ·intro w'
  go_simp
  with_reducible rfl
 rotate_left
 ·simp only [Act.put, List.setIfInBounds_toArray, List.set_cons_zero, List.set_cons_succ, i64_w, i32_w]
  rfl
 refine pure_ (i := 8) (N := some 18) (v := ?_) (a' := ?_) #[true, true, true, true, false, false, true, true, true, false, false, false, false, false, false, false] rfl rfl (any_of HT_.out (by kernel_rfl)) (fun _ _ _ h => h) (Or.inl ⟨by rfl, ?_⟩) ?_ ?_
 rotate_left
 ·intro w'
  go_simp
  with_reducible rfl
 rotate_left
 ·simp only [Act.put, List.setIfInBounds_toArray, List.set_cons_zero, List.set_cons_succ, i64_w, i32_w]
  rfl
 refine pure_ (i := 10) (N := some 20) (v := ?_) (a' := ?_) #[true, true, true, true, false, false, true, true, true, false, true, false, false, false, false, false] rfl rfl (any_of HT_.out (by kernel_rfl)) (fun _ _ _ h => h) (Or.inl ⟨by rfl, ?_⟩) ?_ ?_
 rotate_left
 ·intro w'
  go_simp
  with_reducible rfl
 rotate_left
 ·simp only [Act.put, List.setIfInBounds_toArray, List.set_cons_zero, List.set_cons_succ, i64_w, i32_w]
  rfl
 refine take_ (i := 11) (N := some 21) (v := ?_) (a' := ?_) #[true, true, true, true, false, false, true, true, true, false, true, true, false, false, false, false] rfl rfl (take_ofW HT_.out HW_.out (by kernel_rfl)) (fun _ _ _ h => h) (Or.inl ⟨by rfl, ?_⟩) hHeld ?_ ?_
 rotate_left
 ·rintro w' ⟨s0, s1, s2, s3, s4, s5, s6, s7, s8, s9, s10, s11, s12⟩
  go_simp
  with_reducible rfl
 rotate_left
 ·simp only [Act.put, List.setIfInBounds_toArray, List.set_cons_zero, List.set_cons_succ, i64_w, i32_w]
  rfl
 refine pure_ (i := 12) (N := some 22) (v := ?_) (a' := ?_) #[true, true, true, true, false, false, true, true, true, false, true, true, true, false, false, false] rfl rfl (any_of HT_.out (by kernel_rfl)) (fun _ _ _ h => h) (Or.inl ⟨by rfl, ?_⟩) ?_ ?_
 rotate_left
 ·intro w'
  go_simp
  with_reducible rfl
 rotate_left
 ·simp only [Act.put, List.setIfInBounds_toArray, List.set_cons_zero, List.set_cons_succ, i64_w, i32_w]
  rfl
 refine join_ (σ := Nat) 1 #[true, true, true, true, true, true, true, true, true, true, true, true, true, true, true, false] (fun s_ => [(14, .int .i64 t445), (19, .int .i64 t446), (5, .pointer (some ⟨s_, 0, none⟩)), (15, .int .i64 (wrap64 (t445 + 1))), (23, .agg #[.int .i64 (wrap64 (t445 + 1)), .int .i64 0, .int .i64 t446, .int .i64 0, .int .i64 0, .int .i64 0, .int .i64 (wrap64 (a0_8 + 1))])]) (fun s_ w' => (w'.cell? ⟨gb443, 0, none⟩ = some (.slice A0_0 l0_0.length c0_0) ∧ w'.cell? ⟨gb443, 1, none⟩ = some (.slice A0_1 l0_1.length c0_1) ∧ w'.cell? ⟨gb443, 2, none⟩ = some (.int .i64 a0_2) ∧ w'.cell? ⟨gb443, 3, none⟩ = some (.int .i64 a0_3) ∧ w'.cell? ⟨gb443, 4, none⟩ = some (.int .i64 a0_4) ∧ w'.cell? ⟨gb443, 5, none⟩ = some (.int .i64 a0_5) ∧ w'.cell? ⟨gb443, 6, none⟩ = some (.int .i64 a0_6) ∧ w'.cell? ⟨gb443, 7, none⟩ = some (.int .i64 a0_7) ∧ w'.cell? ⟨gb443, 8, none⟩ = some (.int .i64 a0_8) ∧ w'.cell? ⟨gb443, 9, none⟩ = some (.int .i64 a0_9) ∧ w'.cell? ⟨gb443, 10, none⟩ = some (.int .i64 a0_10) ∧ w'.cell? ⟨gb443, 11, none⟩ = some (.int .i64 a0_11) ∧ w'.cell? ⟨gb443, 12, none⟩ = some (.int .i64 a0_12)) ∧ (w'.heap[gb443]? = some (.cells #[.slice A0_0 l0_0.length c0_0, .slice A0_1 l0_1.length c0_1, .int .i64 a0_2, .int .i64 a0_3, .int .i64 a0_4, .int .i64 a0_5, .int .i64 a0_6, .int .i64 a0_7, .int .i64 a0_8, .int .i64 a0_9, .int .i64 a0_10, .int .i64 a0_11, .int .i64 a0_12] 25 (0, 0))) ∧ (w'.heap[gb444]? = some (.cells #[.int .i64 0, .int .i64 0, .int .i64 0, .int .i64 0, .int .i64 0, .int .i64 0, .int .i64 0] 67 (0, 0))) ∧ (w'.heap[s_]? = some (.cells #[.int .i64 0, .int .i64 0, .int .i64 0, .int .i64 0, .int .i64 0, .int .i64 0, .int .i64 0] 67 (0, 0))) ∧ (w.heap.size ≤ s_) ∧ (w.heap.size ≤ s_) ∧ (gb443 ≠ s_) ∧ (s_ ≠ gb443) ∧ (gb444 ≠ s_) ∧ (s_ ≠ gb444) ∧ (Below w.heap.size w w')) ?_ ?_
 rotate_left
 ·intro hCont
  refine two_ (i := 4) (j := 14) (Ni := some 14) (Nj := some 5) #[true, true, true, true, true, false, true, true, true, false, true, true, true, false, false, false] #[true, true, true, true, false, false, true, true, true, false, true, true, true, false, true, false] rfl rfl rfl rfl (two_of HT_.out (by kernel_rfl)) (by decide) (by decide) (fun K hK => ?_) (fun K hK => ?_)
  ·skip
   refine goes_ Tryd.func69 (by kernel_rfl) rfl #[.int .i64 (wrap64 ((wrap64 (2 * a0_6)) * a0_2))] (by rfl) rfl rfl (by (try simp only [List.map_toArray, List.map_cons, List.map_nil]); first | done | rfl | (simp only [List.length_drop, List.length_take]; rfl)) ?_
   with_reducible refine (bounds_part.calls (wrap64 ((wrap64 (2 * a0_6)) * a0_2)) t445 _ A2.out).mono ?_
   rintro e w' ⟨rfl, ⟨nd, rfl⟩⟩
   refine ⟨_, rfl, ?_⟩
   refine hK.out _ _ ⟨(blk_cell BK443.out 0).trans rfl, (blk_cell BK443.out 1).trans rfl, (blk_cell BK443.out 2).trans rfl, (blk_cell BK443.out 3).trans rfl, (blk_cell BK443.out 4).trans rfl, (blk_cell BK443.out 5).trans rfl, (blk_cell BK443.out 6).trans rfl, (blk_cell BK443.out 7).trans rfl, (blk_cell BK443.out 8).trans rfl, (blk_cell BK443.out 9).trans rfl, (blk_cell BK443.out 10).trans rfl, (blk_cell BK443.out 11).trans rfl, (blk_cell BK443.out 12).trans rfl⟩ (fun hHeld => ?_)
   clear hK K
   refine norm_ (a' := ?_) ?_ ?_
   rotate_left
   ·show Act.put _ (some 14) _ = _
    simp only [Act.put, List.setIfInBounds_toArray, List.set_cons_zero, List.set_cons_succ, i64_w, i32_w]
    rfl
   refine pure_ (i := 5) (N := some 15) (v := ?_) (a' := ?_) #[true, true, true, true, true, true, true, true, true, false, true, true, true, false, false, false] rfl rfl (any_of HT_.out (by kernel_rfl)) (fun _ _ _ h => h) (Or.inl ⟨by rfl, ?_⟩) ?_ ?_
   rotate_left
   ·intro w'
    go_simp
    with_reducible rfl
   rotate_left
   ·simp only [Act.put, List.setIfInBounds_toArray, List.set_cons_zero, List.set_cons_succ, i64_w, i32_w]
    rfl
   refine two_ (i := 9) (j := 14) (Ni := some 19) (Nj := some 5) #[true, true, true, true, true, true, true, true, true, true, true, true, true, false, false, false] #[true, true, true, true, true, true, true, true, true, false, true, true, true, false, true, false] rfl rfl rfl rfl (two_of HT_.out (by kernel_rfl)) (by decide) (by decide) (fun K hK => ?_) (fun K hK => ?_)
   ·skip
    refine goes_ Tryd.func69 (by kernel_rfl) rfl #[.int .i64 (wrap64 (a0_6 * a0_2))] (by rfl) rfl rfl (by (try simp only [List.map_toArray, List.map_cons, List.map_nil]); first | done | rfl | (simp only [List.length_drop, List.length_take]; rfl)) ?_
    with_reducible refine (bounds_part.calls (wrap64 (a0_6 * a0_2)) t446 _ A3.out).mono ?_
    rintro e w' ⟨rfl, ⟨nd, rfl⟩⟩
    refine ⟨_, rfl, ?_⟩
    refine hK.out _ _ ⟨(blk_cell BK443.out 0).trans rfl, (blk_cell BK443.out 1).trans rfl, (blk_cell BK443.out 2).trans rfl, (blk_cell BK443.out 3).trans rfl, (blk_cell BK443.out 4).trans rfl, (blk_cell BK443.out 5).trans rfl, (blk_cell BK443.out 6).trans rfl, (blk_cell BK443.out 7).trans rfl, (blk_cell BK443.out 8).trans rfl, (blk_cell BK443.out 9).trans rfl, (blk_cell BK443.out 10).trans rfl, (blk_cell BK443.out 11).trans rfl, (blk_cell BK443.out 12).trans rfl⟩ (fun hHeld => ?_)
    clear hK K
    refine norm_ (a' := ?_) ?_ ?_
    rotate_left
    ·show Act.put _ (some 19) _ = _
     simp only [Act.put, List.setIfInBounds_toArray, List.set_cons_zero, List.set_cons_succ, i64_w, i32_w]
     rfl
    refine pure_ (i := 13) (N := some 23) (v := ?_) (a' := ?_) #[true, true, true, true, true, true, true, true, true, true, true, true, true, true, false, false] rfl rfl (any_of HT_.out (by kernel_rfl)) (fun _ _ _ h => h) (Or.inl ⟨by rfl, ?_⟩) ?_ ?_
    rotate_left
    ·intro w'
     go_simp
     with_reducible rfl
    rotate_left
    ·simp only [Act.put, List.setIfInBounds_toArray, List.set_cons_zero, List.set_cons_succ, i64_w, i32_w]
     rfl
    refine one_ (i := 14) (N := some 5) #[true, true, true, true, true, true, true, true, true, true, true, true, true, true, true, false] rfl rfl (one_of HT_.out (by kernel_rfl)) (by decide) (fun K hK => ?_)
    refine box_step ?hg (N := 5) ?hd (cs := #[.int .i64 0, .int .i64 0, .int .i64 0, .int .i64 0, .int .i64 0, .int .i64 0, .int .i64 0]) (t := 67) ?hr ?_; (case hd => rfl); (case hg => rfl); (case hr => first | (go_simp; done) | (go_simp; rfl))
    intro gb447 hg w9 hbox hb
    have n0_ := Aside0.mk (blk_below (g := gb443) (o := .cells #[.slice A0_0 l0_0.length c0_0, .slice A0_1 l0_1.length c0_1, .int .i64 a0_2, .int .i64 a0_3, .int .i64 a0_4, .int .i64 a0_5, .int .i64 a0_6, .int .i64 a0_7, .int .i64 a0_8, .int .i64 a0_9, .int .i64 a0_10, .int .i64 a0_11, .int .i64 a0_12] 25 (0, 0)) (by (with_reducible repeat (first | refine blk_drewN ?_ _ | refine blk_drew ?_ | refine blk_alloc ?_ _)); exact BK443.out) hb)
    have n1_ := Aside0.mk (blk_below (g := gb444) (o := .cells #[.int .i64 0, .int .i64 0, .int .i64 0, .int .i64 0, .int .i64 0, .int .i64 0, .int .i64 0] 67 (0, 0)) (by (with_reducible repeat (first | refine blk_drewN ?_ _ | refine blk_drew ?_ | refine blk_alloc ?_ _)); exact BK444.out) hb)
    have n2_ := Aside0.mk (below_step (by repeat (first | (with_reducible first | exact HB.out | apply below_alloc | apply pw_below_drewN | apply below_drew1 | refine below_set ?_ GE443.out | refine below_set ?_ GE444.out) | exact HB.out)) hb)
    have n3_ := Aside0.mk (hbox)
    have n4_ := Aside0.mk ((by rw [hg]; exact (below_size (by repeat (first | (with_reducible first | exact HB.out | apply below_alloc | apply pw_below_drewN | apply below_drew1 | refine below_set ?_ GE443.out | refine below_set ?_ GE444.out) | exact HB.out))) : w.heap.size ≤ gb447))
    have n5_ := Aside0.mk ((by rw [hg]; exact (below_size (by repeat (first | (with_reducible first | exact HB.out | apply below_alloc | apply pw_below_drewN | apply below_drew1 | refine below_set ?_ GE443.out | refine below_set ?_ GE444.out) | exact HB.out))) : w.heap.size ≤ gb447))
    have n6_ := Aside0.mk ((by rw [hg]; exact Nat.ne_of_lt (blk_lt (g := gb443) (o := .cells #[.slice A0_0 l0_0.length c0_0, .slice A0_1 l0_1.length c0_1, .int .i64 a0_2, .int .i64 a0_3, .int .i64 a0_4, .int .i64 a0_5, .int .i64 a0_6, .int .i64 a0_7, .int .i64 a0_8, .int .i64 a0_9, .int .i64 a0_10, .int .i64 a0_11, .int .i64 a0_12] 25 (0, 0)) (by (with_reducible repeat (first | refine blk_drewN ?_ _ | refine blk_drew ?_ | refine blk_alloc ?_ _)); exact BK443.out)) : gb443 ≠ gb447))
    have n7_ := Aside0.mk ((by rw [hg]; exact Nat.ne_of_gt (blk_lt (g := gb443) (o := .cells #[.slice A0_0 l0_0.length c0_0, .slice A0_1 l0_1.length c0_1, .int .i64 a0_2, .int .i64 a0_3, .int .i64 a0_4, .int .i64 a0_5, .int .i64 a0_6, .int .i64 a0_7, .int .i64 a0_8, .int .i64 a0_9, .int .i64 a0_10, .int .i64 a0_11, .int .i64 a0_12] 25 (0, 0)) (by (with_reducible repeat (first | refine blk_drewN ?_ _ | refine blk_drew ?_ | refine blk_alloc ?_ _)); exact BK443.out)) : gb447 ≠ gb443))
    have n8_ := Aside0.mk ((by rw [hg]; exact Nat.ne_of_lt (blk_lt (g := gb444) (o := .cells #[.int .i64 0, .int .i64 0, .int .i64 0, .int .i64 0, .int .i64 0, .int .i64 0, .int .i64 0] 67 (0, 0)) (by (with_reducible repeat (first | refine blk_drewN ?_ _ | refine blk_drew ?_ | refine blk_alloc ?_ _)); exact BK444.out)) : gb444 ≠ gb447))
    have n9_ := Aside0.mk ((by rw [hg]; exact Nat.ne_of_gt (blk_lt (g := gb444) (o := .cells #[.int .i64 0, .int .i64 0, .int .i64 0, .int .i64 0, .int .i64 0, .int .i64 0, .int .i64 0] 67 (0, 0)) (by (with_reducible repeat (first | refine blk_drewN ?_ _ | refine blk_drew ?_ | refine blk_alloc ?_ _)); exact BK444.out)) : gb447 ≠ gb444))
    clear BK443
    clear BK444
    clear HB
    have BK443 := n0_
    have BK444 := n1_
    have HB := n2_
    have BK447 := n3_
    have GW447 := n4_
    have GE447 := n5_
    have NB443_447 := n6_
    have NB447_443 := n7_
    have NB444_447 := n8_
    have NB447_444 := n9_
    clear n0_ n1_ n2_ n3_ n4_ n5_ n6_ n7_ n8_ n9_
    clear hb hbox hg
    refine hK.out _ _ ⟨(blk_cell BK443.out 0).trans rfl, (blk_cell BK443.out 1).trans rfl, (blk_cell BK443.out 2).trans rfl, (blk_cell BK443.out 3).trans rfl, (blk_cell BK443.out 4).trans rfl, (blk_cell BK443.out 5).trans rfl, (blk_cell BK443.out 6).trans rfl, (blk_cell BK443.out 7).trans rfl, (blk_cell BK443.out 8).trans rfl, (blk_cell BK443.out 9).trans rfl, (blk_cell BK443.out 10).trans rfl, (blk_cell BK443.out 11).trans rfl, (blk_cell BK443.out 12).trans rfl⟩ (fun hHeld => ?_)
    clear hK K
    refine norm_ (a' := ?_) ?_ ?_
    rotate_left
    ·show Act.put _ (some 5) _ = _
     simp only [Act.put, List.setIfInBounds_toArray, List.set_cons_zero, List.set_cons_succ, i64_w, i32_w]
     rfl
    exact norm_ (by simp only [putAll, Act.put, List.setIfInBounds_toArray, List.set_cons_zero, List.set_cons_succ]) (hCont (gb447) _ ⟨hHeld, (by (with_reducible repeat (first | refine blk_drewN ?_ _ | refine blk_drew ?_ | refine blk_alloc ?_ _)); exact BK443.out), (by (with_reducible repeat (first | refine blk_drewN ?_ _ | refine blk_drew ?_ | refine blk_alloc ?_ _)); exact BK444.out), (by (with_reducible repeat (first | refine blk_drewN ?_ _ | refine blk_drew ?_ | refine blk_alloc ?_ _)); exact BK447.out), GW447.out, GE447.out, NB443_447.out, NB447_443.out, NB444_447.out, NB447_444.out, (by repeat (first | (with_reducible first | exact HB.out | apply below_alloc | apply pw_below_drewN | apply below_drew1 | refine below_set ?_ GE443.out | refine below_set ?_ GE444.out | refine below_set ?_ GE447.out) | exact HB.out))⟩)
   ·skip
    refine box_step ?hg (N := 5) ?hd (cs := #[.int .i64 0, .int .i64 0, .int .i64 0, .int .i64 0, .int .i64 0, .int .i64 0, .int .i64 0]) (t := 67) ?hr ?_; (case hd => rfl); (case hg => rfl); (case hr => first | (go_simp; done) | (go_simp; rfl))
    intro gb447 hg w9 hbox hb
    have n0_ := Aside0.mk (blk_below (g := gb443) (o := .cells #[.slice A0_0 l0_0.length c0_0, .slice A0_1 l0_1.length c0_1, .int .i64 a0_2, .int .i64 a0_3, .int .i64 a0_4, .int .i64 a0_5, .int .i64 a0_6, .int .i64 a0_7, .int .i64 a0_8, .int .i64 a0_9, .int .i64 a0_10, .int .i64 a0_11, .int .i64 a0_12] 25 (0, 0)) (by (with_reducible repeat (first | refine blk_drewN ?_ _ | refine blk_drew ?_ | refine blk_alloc ?_ _)); exact BK443.out) hb)
    have n1_ := Aside0.mk (blk_below (g := gb444) (o := .cells #[.int .i64 0, .int .i64 0, .int .i64 0, .int .i64 0, .int .i64 0, .int .i64 0, .int .i64 0] 67 (0, 0)) (by (with_reducible repeat (first | refine blk_drewN ?_ _ | refine blk_drew ?_ | refine blk_alloc ?_ _)); exact BK444.out) hb)
    have n2_ := Aside0.mk (below_step (by repeat (first | (with_reducible first | exact HB.out | apply below_alloc | apply pw_below_drewN | apply below_drew1 | refine below_set ?_ GE443.out | refine below_set ?_ GE444.out) | exact HB.out)) hb)
    have n3_ := Aside0.mk (hbox)
    have n4_ := Aside0.mk ((by rw [hg]; exact (below_size (by repeat (first | (with_reducible first | exact HB.out | apply below_alloc | apply pw_below_drewN | apply below_drew1 | refine below_set ?_ GE443.out | refine below_set ?_ GE444.out) | exact HB.out))) : w.heap.size ≤ gb447))
    have n5_ := Aside0.mk ((by rw [hg]; exact (below_size (by repeat (first | (with_reducible first | exact HB.out | apply below_alloc | apply pw_below_drewN | apply below_drew1 | refine below_set ?_ GE443.out | refine below_set ?_ GE444.out) | exact HB.out))) : w.heap.size ≤ gb447))
    have n6_ := Aside0.mk ((by rw [hg]; exact Nat.ne_of_lt (blk_lt (g := gb443) (o := .cells #[.slice A0_0 l0_0.length c0_0, .slice A0_1 l0_1.length c0_1, .int .i64 a0_2, .int .i64 a0_3, .int .i64 a0_4, .int .i64 a0_5, .int .i64 a0_6, .int .i64 a0_7, .int .i64 a0_8, .int .i64 a0_9, .int .i64 a0_10, .int .i64 a0_11, .int .i64 a0_12] 25 (0, 0)) (by (with_reducible repeat (first | refine blk_drewN ?_ _ | refine blk_drew ?_ | refine blk_alloc ?_ _)); exact BK443.out)) : gb443 ≠ gb447))
    have n7_ := Aside0.mk ((by rw [hg]; exact Nat.ne_of_gt (blk_lt (g := gb443) (o := .cells #[.slice A0_0 l0_0.length c0_0, .slice A0_1 l0_1.length c0_1, .int .i64 a0_2, .int .i64 a0_3, .int .i64 a0_4, .int .i64 a0_5, .int .i64 a0_6, .int .i64 a0_7, .int .i64 a0_8, .int .i64 a0_9, .int .i64 a0_10, .int .i64 a0_11, .int .i64 a0_12] 25 (0, 0)) (by (with_reducible repeat (first | refine blk_drewN ?_ _ | refine blk_drew ?_ | refine blk_alloc ?_ _)); exact BK443.out)) : gb447 ≠ gb443))
    have n8_ := Aside0.mk ((by rw [hg]; exact Nat.ne_of_lt (blk_lt (g := gb444) (o := .cells #[.int .i64 0, .int .i64 0, .int .i64 0, .int .i64 0, .int .i64 0, .int .i64 0, .int .i64 0] 67 (0, 0)) (by (with_reducible repeat (first | refine blk_drewN ?_ _ | refine blk_drew ?_ | refine blk_alloc ?_ _)); exact BK444.out)) : gb444 ≠ gb447))
    have n9_ := Aside0.mk ((by rw [hg]; exact Nat.ne_of_gt (blk_lt (g := gb444) (o := .cells #[.int .i64 0, .int .i64 0, .int .i64 0, .int .i64 0, .int .i64 0, .int .i64 0, .int .i64 0] 67 (0, 0)) (by (with_reducible repeat (first | refine blk_drewN ?_ _ | refine blk_drew ?_ | refine blk_alloc ?_ _)); exact BK444.out)) : gb447 ≠ gb444))
    clear BK443
    clear BK444
    clear HB
    have BK443 := n0_
    have BK444 := n1_
    have HB := n2_
    have BK447 := n3_
    have GW447 := n4_
    have GE447 := n5_
    have NB443_447 := n6_
    have NB447_443 := n7_
    have NB444_447 := n8_
    have NB447_444 := n9_
    clear n0_ n1_ n2_ n3_ n4_ n5_ n6_ n7_ n8_ n9_
    clear hb hbox hg
    refine hK.out _ _ ⟨(blk_cell BK443.out 0).trans rfl, (blk_cell BK443.out 1).trans rfl, (blk_cell BK443.out 2).trans rfl, (blk_cell BK443.out 3).trans rfl, (blk_cell BK443.out 4).trans rfl, (blk_cell BK443.out 5).trans rfl, (blk_cell BK443.out 6).trans rfl, (blk_cell BK443.out 7).trans rfl, (blk_cell BK443.out 8).trans rfl, (blk_cell BK443.out 9).trans rfl, (blk_cell BK443.out 10).trans rfl, (blk_cell BK443.out 11).trans rfl, (blk_cell BK443.out 12).trans rfl⟩ (fun hHeld => ?_)
    clear hK K
    refine norm_ (a' := ?_) ?_ ?_
    rotate_left
    ·show Act.put _ (some 5) _ = _
     simp only [Act.put, List.setIfInBounds_toArray, List.set_cons_zero, List.set_cons_succ, i64_w, i32_w]
     rfl
    refine one_ (i := 9) (N := some 19) #[true, true, true, true, true, true, true, true, true, true, true, true, true, false, true, false] rfl rfl (one_of HT_.out (by kernel_rfl)) (by decide) (fun K hK => ?_)
    refine goes_ Tryd.func69 (by kernel_rfl) rfl #[.int .i64 (wrap64 (a0_6 * a0_2))] (by rfl) rfl rfl (by (try simp only [List.map_toArray, List.map_cons, List.map_nil]); first | done | rfl | (simp only [List.length_drop, List.length_take]; rfl)) ?_
    with_reducible refine (bounds_part.calls (wrap64 (a0_6 * a0_2)) t446 _ A3.out).mono ?_
    rintro e w' ⟨rfl, ⟨nd, rfl⟩⟩
    refine ⟨_, rfl, ?_⟩
    refine hK.out _ _ ⟨(blk_cell BK443.out 0).trans rfl, (blk_cell BK443.out 1).trans rfl, (blk_cell BK443.out 2).trans rfl, (blk_cell BK443.out 3).trans rfl, (blk_cell BK443.out 4).trans rfl, (blk_cell BK443.out 5).trans rfl, (blk_cell BK443.out 6).trans rfl, (blk_cell BK443.out 7).trans rfl, (blk_cell BK443.out 8).trans rfl, (blk_cell BK443.out 9).trans rfl, (blk_cell BK443.out 10).trans rfl, (blk_cell BK443.out 11).trans rfl, (blk_cell BK443.out 12).trans rfl⟩ (fun hHeld => ?_)
    clear hK K
    refine norm_ (a' := ?_) ?_ ?_
    rotate_left
    ·show Act.put _ (some 19) _ = _
     simp only [Act.put, List.setIfInBounds_toArray, List.set_cons_zero, List.set_cons_succ, i64_w, i32_w]
     rfl
    refine pure_ (i := 13) (N := some 23) (v := ?_) (a' := ?_) #[true, true, true, true, true, true, true, true, true, true, true, true, true, true, true, false] rfl rfl (any_of HT_.out (by kernel_rfl)) (fun _ _ _ h => h) (Or.inl ⟨by rfl, ?_⟩) ?_ ?_
    rotate_left
    ·intro w'
     go_simp
     with_reducible rfl
    rotate_left
    ·simp only [Act.put, List.setIfInBounds_toArray, List.set_cons_zero, List.set_cons_succ, i64_w, i32_w]
     rfl
    exact norm_ (by simp only [putAll, Act.put, List.setIfInBounds_toArray, List.set_cons_zero, List.set_cons_succ]) (hCont (gb447) _ ⟨hHeld, (by (with_reducible repeat (first | refine blk_drewN ?_ _ | refine blk_drew ?_ | refine blk_alloc ?_ _)); exact BK443.out), (by (with_reducible repeat (first | refine blk_drewN ?_ _ | refine blk_drew ?_ | refine blk_alloc ?_ _)); exact BK444.out), (by (with_reducible repeat (first | refine blk_drewN ?_ _ | refine blk_drew ?_ | refine blk_alloc ?_ _)); exact BK447.out), GW447.out, GE447.out, NB443_447.out, NB447_443.out, NB444_447.out, NB447_444.out, (by repeat (first | (with_reducible first | exact HB.out | apply below_alloc | apply pw_below_drewN | apply below_drew1 | refine below_set ?_ GE443.out | refine below_set ?_ GE444.out | refine below_set ?_ GE447.out) | exact HB.out))⟩)
  ·skip
   refine box_step ?hg (N := 5) ?hd (cs := #[.int .i64 0, .int .i64 0, .int .i64 0, .int .i64 0, .int .i64 0, .int .i64 0, .int .i64 0]) (t := 67) ?hr ?_; (case hd => rfl); (case hg => rfl); (case hr => first | (go_simp; done) | (go_simp; rfl))
   intro gb447 hg w9 hbox hb
   have n0_ := Aside0.mk (blk_below (g := gb443) (o := .cells #[.slice A0_0 l0_0.length c0_0, .slice A0_1 l0_1.length c0_1, .int .i64 a0_2, .int .i64 a0_3, .int .i64 a0_4, .int .i64 a0_5, .int .i64 a0_6, .int .i64 a0_7, .int .i64 a0_8, .int .i64 a0_9, .int .i64 a0_10, .int .i64 a0_11, .int .i64 a0_12] 25 (0, 0)) (by (with_reducible repeat (first | refine blk_drewN ?_ _ | refine blk_drew ?_ | refine blk_alloc ?_ _)); exact BK443.out) hb)
   have n1_ := Aside0.mk (blk_below (g := gb444) (o := .cells #[.int .i64 0, .int .i64 0, .int .i64 0, .int .i64 0, .int .i64 0, .int .i64 0, .int .i64 0] 67 (0, 0)) (by (with_reducible repeat (first | refine blk_drewN ?_ _ | refine blk_drew ?_ | refine blk_alloc ?_ _)); exact BK444.out) hb)
   have n2_ := Aside0.mk (below_step (by repeat (first | (with_reducible first | exact HB.out | apply below_alloc | apply pw_below_drewN | apply below_drew1 | refine below_set ?_ GE443.out | refine below_set ?_ GE444.out) | exact HB.out)) hb)
   have n3_ := Aside0.mk (hbox)
   have n4_ := Aside0.mk ((by rw [hg]; exact (below_size (by repeat (first | (with_reducible first | exact HB.out | apply below_alloc | apply pw_below_drewN | apply below_drew1 | refine below_set ?_ GE443.out | refine below_set ?_ GE444.out) | exact HB.out))) : w.heap.size ≤ gb447))
   have n5_ := Aside0.mk ((by rw [hg]; exact (below_size (by repeat (first | (with_reducible first | exact HB.out | apply below_alloc | apply pw_below_drewN | apply below_drew1 | refine below_set ?_ GE443.out | refine below_set ?_ GE444.out) | exact HB.out))) : w.heap.size ≤ gb447))
   have n6_ := Aside0.mk ((by rw [hg]; exact Nat.ne_of_lt (blk_lt (g := gb443) (o := .cells #[.slice A0_0 l0_0.length c0_0, .slice A0_1 l0_1.length c0_1, .int .i64 a0_2, .int .i64 a0_3, .int .i64 a0_4, .int .i64 a0_5, .int .i64 a0_6, .int .i64 a0_7, .int .i64 a0_8, .int .i64 a0_9, .int .i64 a0_10, .int .i64 a0_11, .int .i64 a0_12] 25 (0, 0)) (by (with_reducible repeat (first | refine blk_drewN ?_ _ | refine blk_drew ?_ | refine blk_alloc ?_ _)); exact BK443.out)) : gb443 ≠ gb447))
   have n7_ := Aside0.mk ((by rw [hg]; exact Nat.ne_of_gt (blk_lt (g := gb443) (o := .cells #[.slice A0_0 l0_0.length c0_0, .slice A0_1 l0_1.length c0_1, .int .i64 a0_2, .int .i64 a0_3, .int .i64 a0_4, .int .i64 a0_5, .int .i64 a0_6, .int .i64 a0_7, .int .i64 a0_8, .int .i64 a0_9, .int .i64 a0_10, .int .i64 a0_11, .int .i64 a0_12] 25 (0, 0)) (by (with_reducible repeat (first | refine blk_drewN ?_ _ | refine blk_drew ?_ | refine blk_alloc ?_ _)); exact BK443.out)) : gb447 ≠ gb443))
   have n8_ := Aside0.mk ((by rw [hg]; exact Nat.ne_of_lt (blk_lt (g := gb444) (o := .cells #[.int .i64 0, .int .i64 0, .int .i64 0, .int .i64 0, .int .i64 0, .int .i64 0, .int .i64 0] 67 (0, 0)) (by (with_reducible repeat (first | refine blk_drewN ?_ _ | refine blk_drew ?_ | refine blk_alloc ?_ _)); exact BK444.out)) : gb444 ≠ gb447))
   have n9_ := Aside0.mk ((by rw [hg]; exact Nat.ne_of_gt (blk_lt (g := gb444) (o := .cells #[.int .i64 0, .int .i64 0, .int .i64 0, .int .i64 0, .int .i64 0, .int .i64 0, .int .i64 0] 67 (0, 0)) (by (with_reducible repeat (first | refine blk_drewN ?_ _ | refine blk_drew ?_ | refine blk_alloc ?_ _)); exact BK444.out)) : gb447 ≠ gb444))
   clear BK443
   clear BK444
   clear HB
   have BK443 := n0_
   have BK444 := n1_
   have HB := n2_
   have BK447 := n3_
   have GW447 := n4_
   have GE447 := n5_
   have NB443_447 := n6_
   have NB447_443 := n7_
   have NB444_447 := n8_
   have NB447_444 := n9_
   clear n0_ n1_ n2_ n3_ n4_ n5_ n6_ n7_ n8_ n9_
   clear hb hbox hg
   refine hK.out _ _ ⟨(blk_cell BK443.out 0).trans rfl, (blk_cell BK443.out 1).trans rfl, (blk_cell BK443.out 2).trans rfl, (blk_cell BK443.out 3).trans rfl, (blk_cell BK443.out 4).trans rfl, (blk_cell BK443.out 5).trans rfl, (blk_cell BK443.out 6).trans rfl, (blk_cell BK443.out 7).trans rfl, (blk_cell BK443.out 8).trans rfl, (blk_cell BK443.out 9).trans rfl, (blk_cell BK443.out 10).trans rfl, (blk_cell BK443.out 11).trans rfl, (blk_cell BK443.out 12).trans rfl⟩ (fun hHeld => ?_)
   clear hK K
   refine norm_ (a' := ?_) ?_ ?_
   rotate_left
   ·show Act.put _ (some 5) _ = _
    simp only [Act.put, List.setIfInBounds_toArray, List.set_cons_zero, List.set_cons_succ, i64_w, i32_w]
    rfl
   refine one_ (i := 4) (N := some 14) #[true, true, true, true, true, false, true, true, true, false, true, true, true, false, true, false] rfl rfl (one_of HT_.out (by kernel_rfl)) (by decide) (fun K hK => ?_)
   refine goes_ Tryd.func69 (by kernel_rfl) rfl #[.int .i64 (wrap64 ((wrap64 (2 * a0_6)) * a0_2))] (by rfl) rfl rfl (by (try simp only [List.map_toArray, List.map_cons, List.map_nil]); first | done | rfl | (simp only [List.length_drop, List.length_take]; rfl)) ?_
   with_reducible refine (bounds_part.calls (wrap64 ((wrap64 (2 * a0_6)) * a0_2)) t445 _ A2.out).mono ?_
   rintro e w' ⟨rfl, ⟨nd, rfl⟩⟩
   refine ⟨_, rfl, ?_⟩
   refine hK.out _ _ ⟨(blk_cell BK443.out 0).trans rfl, (blk_cell BK443.out 1).trans rfl, (blk_cell BK443.out 2).trans rfl, (blk_cell BK443.out 3).trans rfl, (blk_cell BK443.out 4).trans rfl, (blk_cell BK443.out 5).trans rfl, (blk_cell BK443.out 6).trans rfl, (blk_cell BK443.out 7).trans rfl, (blk_cell BK443.out 8).trans rfl, (blk_cell BK443.out 9).trans rfl, (blk_cell BK443.out 10).trans rfl, (blk_cell BK443.out 11).trans rfl, (blk_cell BK443.out 12).trans rfl⟩ (fun hHeld => ?_)
   clear hK K
   refine norm_ (a' := ?_) ?_ ?_
   rotate_left
   ·show Act.put _ (some 14) _ = _
    simp only [Act.put, List.setIfInBounds_toArray, List.set_cons_zero, List.set_cons_succ, i64_w, i32_w]
    rfl
   refine pure_ (i := 5) (N := some 15) (v := ?_) (a' := ?_) #[true, true, true, true, true, true, true, true, true, false, true, true, true, false, true, false] rfl rfl (any_of HT_.out (by kernel_rfl)) (fun _ _ _ h => h) (Or.inl ⟨by rfl, ?_⟩) ?_ ?_
   rotate_left
   ·intro w'
    go_simp
    with_reducible rfl
   rotate_left
   ·simp only [Act.put, List.setIfInBounds_toArray, List.set_cons_zero, List.set_cons_succ, i64_w, i32_w]
    rfl
   refine one_ (i := 9) (N := some 19) #[true, true, true, true, true, true, true, true, true, true, true, true, true, false, true, false] rfl rfl (one_of HT_.out (by kernel_rfl)) (by decide) (fun K hK => ?_)
   refine goes_ Tryd.func69 (by kernel_rfl) rfl #[.int .i64 (wrap64 (a0_6 * a0_2))] (by rfl) rfl rfl (by (try simp only [List.map_toArray, List.map_cons, List.map_nil]); first | done | rfl | (simp only [List.length_drop, List.length_take]; rfl)) ?_
   with_reducible refine (bounds_part.calls (wrap64 (a0_6 * a0_2)) t446 _ A3.out).mono ?_
   rintro e w' ⟨rfl, ⟨nd, rfl⟩⟩
   refine ⟨_, rfl, ?_⟩
   refine hK.out _ _ ⟨(blk_cell BK443.out 0).trans rfl, (blk_cell BK443.out 1).trans rfl, (blk_cell BK443.out 2).trans rfl, (blk_cell BK443.out 3).trans rfl, (blk_cell BK443.out 4).trans rfl, (blk_cell BK443.out 5).trans rfl, (blk_cell BK443.out 6).trans rfl, (blk_cell BK443.out 7).trans rfl, (blk_cell BK443.out 8).trans rfl, (blk_cell BK443.out 9).trans rfl, (blk_cell BK443.out 10).trans rfl, (blk_cell BK443.out 11).trans rfl, (blk_cell BK443.out 12).trans rfl⟩ (fun hHeld => ?_)
   clear hK K
   refine norm_ (a' := ?_) ?_ ?_
   rotate_left
   ·show Act.put _ (some 19) _ = _
    simp only [Act.put, List.setIfInBounds_toArray, List.set_cons_zero, List.set_cons_succ, i64_w, i32_w]
    rfl
   refine pure_ (i := 13) (N := some 23) (v := ?_) (a' := ?_) #[true, true, true, true, true, true, true, true, true, true, true, true, true, true, true, false] rfl rfl (any_of HT_.out (by kernel_rfl)) (fun _ _ _ h => h) (Or.inl ⟨by rfl, ?_⟩) ?_ ?_
   rotate_left
   ·intro w'
    go_simp
    with_reducible rfl
   rotate_left
   ·simp only [Act.put, List.setIfInBounds_toArray, List.set_cons_zero, List.set_cons_succ, i64_w, i32_w]
    rfl
   exact norm_ (by simp only [putAll, Act.put, List.setIfInBounds_toArray, List.set_cons_zero, List.set_cons_succ]) (hCont (gb447) _ ⟨hHeld, (by (with_reducible repeat (first | refine blk_drewN ?_ _ | refine blk_drew ?_ | refine blk_alloc ?_ _)); exact BK443.out), (by (with_reducible repeat (first | refine blk_drewN ?_ _ | refine blk_drew ?_ | refine blk_alloc ?_ _)); exact BK444.out), (by (with_reducible repeat (first | refine blk_drewN ?_ _ | refine blk_drew ?_ | refine blk_alloc ?_ _)); exact BK447.out), GW447.out, GE447.out, NB443_447.out, NB447_443.out, NB444_447.out, NB447_444.out, (by repeat (first | (with_reducible first | exact HB.out | apply below_alloc | apply pw_below_drewN | apply below_drew1 | refine below_set ?_ GE443.out | refine below_set ?_ GE444.out | refine below_set ?_ GE447.out) | exact HB.out))⟩)
 rintro gb447 w10 ⟨hS_, h0_, h1_, h2_, h3_, h4_, h5_, h6_, h7_, h8_, h9_⟩
 have n0_ : Aside0 (w10.heap[gb443]? = some (.cells #[.slice A0_0 l0_0.length c0_0, .slice A0_1 l0_1.length c0_1, .int .i64 a0_2, .int .i64 a0_3, .int .i64 a0_4, .int .i64 a0_5, .int .i64 a0_6, .int .i64 a0_7, .int .i64 a0_8, .int .i64 a0_9, .int .i64 a0_10, .int .i64 a0_11, .int .i64 a0_12] 25 (0, 0))) := ⟨h0_⟩
 have n1_ : Aside0 (w10.heap[gb444]? = some (.cells #[.int .i64 0, .int .i64 0, .int .i64 0, .int .i64 0, .int .i64 0, .int .i64 0, .int .i64 0] 67 (0, 0))) := ⟨h1_⟩
 have n2_ : Aside0 (w10.heap[gb447]? = some (.cells #[.int .i64 0, .int .i64 0, .int .i64 0, .int .i64 0, .int .i64 0, .int .i64 0, .int .i64 0] 67 (0, 0))) := ⟨h2_⟩
 have n3_ : Aside0 (w.heap.size ≤ gb447) := ⟨h3_⟩
 have n4_ : Aside0 (w.heap.size ≤ gb447) := ⟨h4_⟩
 have n5_ : Aside0 (gb443 ≠ gb447) := ⟨h5_⟩
 have n6_ : Aside0 (gb447 ≠ gb443) := ⟨h6_⟩
 have n7_ : Aside0 (gb444 ≠ gb447) := ⟨h7_⟩
 have n8_ : Aside0 (gb447 ≠ gb444) := ⟨h8_⟩
 have n9_ : Aside0 (Below w.heap.size w w10) := ⟨h9_⟩
 clear BK443
 clear BK444
 clear HB
 clear h0_ h1_ h2_ h3_ h4_ h5_ h6_ h7_ h8_ h9_
 have BK443 := n0_
 have BK444 := n1_
 have BK447 := n2_
 have GW447 := n3_
 have GE447 := n4_
 have NB443_447 := n5_
 have NB447_443 := n6_
 have NB444_447 := n7_
 have NB447_444 := n8_
 have HB := n9_
 clear n0_ n1_ n2_ n3_ n4_ n5_ n6_ n7_ n8_ n9_
 have hHeld : w10.cell? ⟨gb443, 0, none⟩ = some (.slice A0_0 l0_0.length c0_0) ∧ w10.cell? ⟨gb443, 1, none⟩ = some (.slice A0_1 l0_1.length c0_1) ∧ w10.cell? ⟨gb443, 2, none⟩ = some (.int .i64 a0_2) ∧ w10.cell? ⟨gb443, 3, none⟩ = some (.int .i64 a0_3) ∧ w10.cell? ⟨gb443, 4, none⟩ = some (.int .i64 a0_4) ∧ w10.cell? ⟨gb443, 5, none⟩ = some (.int .i64 a0_5) ∧ w10.cell? ⟨gb443, 6, none⟩ = some (.int .i64 a0_6) ∧ w10.cell? ⟨gb443, 7, none⟩ = some (.int .i64 a0_7) ∧ w10.cell? ⟨gb443, 8, none⟩ = some (.int .i64 a0_8) ∧ w10.cell? ⟨gb443, 9, none⟩ = some (.int .i64 a0_9) ∧ w10.cell? ⟨gb443, 10, none⟩ = some (.int .i64 a0_10) ∧ w10.cell? ⟨gb443, 11, none⟩ = some (.int .i64 a0_11) ∧ w10.cell? ⟨gb443, 12, none⟩ = some (.int .i64 a0_12) := hS_
 refine norm_ (a' := ?_) ?_ ?_
 rotate_left
 ·simp only [putAll, Act.put, List.setIfInBounds_toArray, List.set_cons_zero, List.set_cons_succ]
  rfl
 refine one_ (i := 15) (N := none) #[true, true, true, true, true, true, true, true, true, true, true, true, true, true, true, true] rfl rfl (one_of HT_.out (by kernel_rfl)) (by decide) (fun K hK => ?_)
 have hs11 : w10.cell? ⟨gb447, 0, none⟩ = some (.int .i64 0) := (blk_cell BK447.out 0).trans rfl
 have hfs11 := blk_frozen BK447.out 0
 have hns11_0 := NB443_447.out
 have hns11_1 := NB444_447.out
 have hms11_0 := NB447_443.out
 have hms11_1 := NB447_444.out
 have hs12 : w10.cell? ⟨gb447, 1, none⟩ = some (.int .i64 0) := (blk_cell BK447.out 1).trans rfl
 have hfs12 := blk_frozen BK447.out 1
 have hns12_0 := NB443_447.out
 have hns12_1 := NB444_447.out
 have hms12_0 := NB447_443.out
 have hms12_1 := NB447_444.out
 have hs13 : w10.cell? ⟨gb447, 2, none⟩ = some (.int .i64 0) := (blk_cell BK447.out 2).trans rfl
 have hfs13 := blk_frozen BK447.out 2
 have hns13_0 := NB443_447.out
 have hns13_1 := NB444_447.out
 have hms13_0 := NB447_443.out
 have hms13_1 := NB447_444.out
 have hs14 : w10.cell? ⟨gb447, 3, none⟩ = some (.int .i64 0) := (blk_cell BK447.out 3).trans rfl
 have hfs14 := blk_frozen BK447.out 3
 have hns14_0 := NB443_447.out
 have hns14_1 := NB444_447.out
 have hms14_0 := NB447_443.out
 have hms14_1 := NB447_444.out
 have hs15 : w10.cell? ⟨gb447, 4, none⟩ = some (.int .i64 0) := (blk_cell BK447.out 4).trans rfl
 have hfs15 := blk_frozen BK447.out 4
 have hns15_0 := NB443_447.out
 have hns15_1 := NB444_447.out
 have hms15_0 := NB447_443.out
 have hms15_1 := NB447_444.out
 have hs16 : w10.cell? ⟨gb447, 5, none⟩ = some (.int .i64 0) := (blk_cell BK447.out 5).trans rfl
 have hfs16 := blk_frozen BK447.out 5
 have hns16_0 := NB443_447.out
 have hns16_1 := NB444_447.out
 have hms16_0 := NB447_443.out
 have hms16_1 := NB447_444.out
 have hs17 : w10.cell? ⟨gb447, 6, none⟩ = some (.int .i64 0) := (blk_cell BK447.out 6).trans rfl
 have hfs17 := blk_frozen BK447.out 6
 have hns17_0 := NB443_447.out
 have hns17_1 := NB444_447.out
 have hms17_0 := NB447_443.out
 have hms17_1 := NB447_444.out
 refine skip_ (w1 := ?_) (by rfl) rfl ?_ ?_
 rotate_left
 ·go_simp
  rfl
 refine hK.out _ _ ⟨((cell_far (p := ⟨gb447, _, none⟩) NB443_447.out _).trans (((cell_far (p := ⟨gb447, _, none⟩) NB443_447.out _).trans (((cell_far (p := ⟨gb447, _, none⟩) NB443_447.out _).trans (((cell_far (p := ⟨gb447, _, none⟩) NB443_447.out _).trans (((cell_far (p := ⟨gb447, _, none⟩) NB443_447.out _).trans (((cell_far (p := ⟨gb447, _, none⟩) NB443_447.out _).trans (((cell_far (p := ⟨gb447, _, none⟩) NB443_447.out _).trans (hHeld.1)))))))))))))), ((cell_far (p := ⟨gb447, _, none⟩) NB443_447.out _).trans (((cell_far (p := ⟨gb447, _, none⟩) NB443_447.out _).trans (((cell_far (p := ⟨gb447, _, none⟩) NB443_447.out _).trans (((cell_far (p := ⟨gb447, _, none⟩) NB443_447.out _).trans (((cell_far (p := ⟨gb447, _, none⟩) NB443_447.out _).trans (((cell_far (p := ⟨gb447, _, none⟩) NB443_447.out _).trans (((cell_far (p := ⟨gb447, _, none⟩) NB443_447.out _).trans (hHeld.2.1)))))))))))))), ((cell_far (p := ⟨gb447, _, none⟩) NB443_447.out _).trans (((cell_far (p := ⟨gb447, _, none⟩) NB443_447.out _).trans (((cell_far (p := ⟨gb447, _, none⟩) NB443_447.out _).trans (((cell_far (p := ⟨gb447, _, none⟩) NB443_447.out _).trans (((cell_far (p := ⟨gb447, _, none⟩) NB443_447.out _).trans (((cell_far (p := ⟨gb447, _, none⟩) NB443_447.out _).trans (((cell_far (p := ⟨gb447, _, none⟩) NB443_447.out _).trans (hHeld.2.2.1)))))))))))))), ((cell_far (p := ⟨gb447, _, none⟩) NB443_447.out _).trans (((cell_far (p := ⟨gb447, _, none⟩) NB443_447.out _).trans (((cell_far (p := ⟨gb447, _, none⟩) NB443_447.out _).trans (((cell_far (p := ⟨gb447, _, none⟩) NB443_447.out _).trans (((cell_far (p := ⟨gb447, _, none⟩) NB443_447.out _).trans (((cell_far (p := ⟨gb447, _, none⟩) NB443_447.out _).trans (((cell_far (p := ⟨gb447, _, none⟩) NB443_447.out _).trans (hHeld.2.2.2.1)))))))))))))), ((cell_far (p := ⟨gb447, _, none⟩) NB443_447.out _).trans (((cell_far (p := ⟨gb447, _, none⟩) NB443_447.out _).trans (((cell_far (p := ⟨gb447, _, none⟩) NB443_447.out _).trans (((cell_far (p := ⟨gb447, _, none⟩) NB443_447.out _).trans (((cell_far (p := ⟨gb447, _, none⟩) NB443_447.out _).trans (((cell_far (p := ⟨gb447, _, none⟩) NB443_447.out _).trans (((cell_far (p := ⟨gb447, _, none⟩) NB443_447.out _).trans (hHeld.2.2.2.2.1)))))))))))))), ((cell_far (p := ⟨gb447, _, none⟩) NB443_447.out _).trans (((cell_far (p := ⟨gb447, _, none⟩) NB443_447.out _).trans (((cell_far (p := ⟨gb447, _, none⟩) NB443_447.out _).trans (((cell_far (p := ⟨gb447, _, none⟩) NB443_447.out _).trans (((cell_far (p := ⟨gb447, _, none⟩) NB443_447.out _).trans (((cell_far (p := ⟨gb447, _, none⟩) NB443_447.out _).trans (((cell_far (p := ⟨gb447, _, none⟩) NB443_447.out _).trans (hHeld.2.2.2.2.2.1)))))))))))))), ((cell_far (p := ⟨gb447, _, none⟩) NB443_447.out _).trans (((cell_far (p := ⟨gb447, _, none⟩) NB443_447.out _).trans (((cell_far (p := ⟨gb447, _, none⟩) NB443_447.out _).trans (((cell_far (p := ⟨gb447, _, none⟩) NB443_447.out _).trans (((cell_far (p := ⟨gb447, _, none⟩) NB443_447.out _).trans (((cell_far (p := ⟨gb447, _, none⟩) NB443_447.out _).trans (((cell_far (p := ⟨gb447, _, none⟩) NB443_447.out _).trans (hHeld.2.2.2.2.2.2.1)))))))))))))), ((cell_far (p := ⟨gb447, _, none⟩) NB443_447.out _).trans (((cell_far (p := ⟨gb447, _, none⟩) NB443_447.out _).trans (((cell_far (p := ⟨gb447, _, none⟩) NB443_447.out _).trans (((cell_far (p := ⟨gb447, _, none⟩) NB443_447.out _).trans (((cell_far (p := ⟨gb447, _, none⟩) NB443_447.out _).trans (((cell_far (p := ⟨gb447, _, none⟩) NB443_447.out _).trans (((cell_far (p := ⟨gb447, _, none⟩) NB443_447.out _).trans (hHeld.2.2.2.2.2.2.2.1)))))))))))))), ((cell_far (p := ⟨gb447, _, none⟩) NB443_447.out _).trans (((cell_far (p := ⟨gb447, _, none⟩) NB443_447.out _).trans (((cell_far (p := ⟨gb447, _, none⟩) NB443_447.out _).trans (((cell_far (p := ⟨gb447, _, none⟩) NB443_447.out _).trans (((cell_far (p := ⟨gb447, _, none⟩) NB443_447.out _).trans (((cell_far (p := ⟨gb447, _, none⟩) NB443_447.out _).trans (((cell_far (p := ⟨gb447, _, none⟩) NB443_447.out _).trans (hHeld.2.2.2.2.2.2.2.2.1)))))))))))))), ((cell_far (p := ⟨gb447, _, none⟩) NB443_447.out _).trans (((cell_far (p := ⟨gb447, _, none⟩) NB443_447.out _).trans (((cell_far (p := ⟨gb447, _, none⟩) NB443_447.out _).trans (((cell_far (p := ⟨gb447, _, none⟩) NB443_447.out _).trans (((cell_far (p := ⟨gb447, _, none⟩) NB443_447.out _).trans (((cell_far (p := ⟨gb447, _, none⟩) NB443_447.out _).trans (((cell_far (p := ⟨gb447, _, none⟩) NB443_447.out _).trans (hHeld.2.2.2.2.2.2.2.2.2.1)))))))))))))), ((cell_far (p := ⟨gb447, _, none⟩) NB443_447.out _).trans (((cell_far (p := ⟨gb447, _, none⟩) NB443_447.out _).trans (((cell_far (p := ⟨gb447, _, none⟩) NB443_447.out _).trans (((cell_far (p := ⟨gb447, _, none⟩) NB443_447.out _).trans (((cell_far (p := ⟨gb447, _, none⟩) NB443_447.out _).trans (((cell_far (p := ⟨gb447, _, none⟩) NB443_447.out _).trans (((cell_far (p := ⟨gb447, _, none⟩) NB443_447.out _).trans (hHeld.2.2.2.2.2.2.2.2.2.2.1)))))))))))))), ((cell_far (p := ⟨gb447, _, none⟩) NB443_447.out _).trans (((cell_far (p := ⟨gb447, _, none⟩) NB443_447.out _).trans (((cell_far (p := ⟨gb447, _, none⟩) NB443_447.out _).trans (((cell_far (p := ⟨gb447, _, none⟩) NB443_447.out _).trans (((cell_far (p := ⟨gb447, _, none⟩) NB443_447.out _).trans (((cell_far (p := ⟨gb447, _, none⟩) NB443_447.out _).trans (((cell_far (p := ⟨gb447, _, none⟩) NB443_447.out _).trans (hHeld.2.2.2.2.2.2.2.2.2.2.2.1)))))))))))))), ((cell_far (p := ⟨gb447, _, none⟩) NB443_447.out _).trans (((cell_far (p := ⟨gb447, _, none⟩) NB443_447.out _).trans (((cell_far (p := ⟨gb447, _, none⟩) NB443_447.out _).trans (((cell_far (p := ⟨gb447, _, none⟩) NB443_447.out _).trans (((cell_far (p := ⟨gb447, _, none⟩) NB443_447.out _).trans (((cell_far (p := ⟨gb447, _, none⟩) NB443_447.out _).trans (((cell_far (p := ⟨gb447, _, none⟩) NB443_447.out _).trans (hHeld.2.2.2.2.2.2.2.2.2.2.2.2))))))))))))))⟩ (fun hHeld => ?_)
 clear hK K
 refine done_ (done_of HT_.out (by kernel_rfl)) ?_
 obtain ⟨ed, hed⟩ : ∃ v_ : Int, wrap64 (t445 + 1) = v_ := ⟨_, rfl⟩
 obtain ⟨nr, hnr⟩ : ∃ v_ : Int, wrap64 (2 * ed) = v_ := ⟨_, rfl⟩
 obtain ⟨n2, hn2⟩ : ∃ v_ : Int, wrap64 (2 * nr) = v_ := ⟨_, rfl⟩
 obtain ⟨s2, hs2⟩ : ∃ v_ : Int, wrap64 (2 * t446) = v_ := ⟨_, rfl⟩
 obtain ⟨ns, hns⟩ : ∃ v_ : Int, wrap64 (n2 + s2) = v_ := ⟨_, rfl⟩
 obtain ⟨st, hst⟩ : ∃ v_ : Int, wrap64 (ns + 2) = v_ := ⟨_, rfl⟩
 obtain ⟨ag2, hag2⟩ : ∃ v_ : Int, wrap64 (2 * a0_8) = v_ := ⟨_, rfl⟩
 obtain ⟨as_, has_⟩ : ∃ v_ : Int, wrap64 (ag2 * st) = v_ := ⟨_, rfl⟩
 obtain ⟨jp, hjp⟩ : ∃ v_ : Int, wrap64 (as_ + n2) = v_ := ⟨_, rfl⟩
 obtain ⟨ne, hne⟩ : ∃ v_ : Int, wrap64 (nr + ed) = v_ := ⟨_, rfl⟩
 obtain ⟨rd_, hrd_⟩ : ∃ v_ : Int, wrap64 (a0_7 + a0_6) = v_ := ⟨_, rfl⟩
 obtain ⟨x16, hx16⟩ : ∃ v_ : Int, wrap64 (nr * rd_) = v_ := ⟨_, rfl⟩
 obtain ⟨y17, hy17⟩ : ∃ v_ : Int, wrap64 (ne + t448) = v_ := ⟨_, rfl⟩
 obtain ⟨tk, htk⟩ : ∃ v_ : Int, wrap64 (y17 + 1) = v_ := ⟨_, rfl⟩
 obtain ⟨gn, hgn⟩ : ∃ v_ : Int, wrap64 (a0_8 + 1) = v_ := ⟨_, rfl⟩
 simp only [hed, hnr, hn2, hs2, hns, hst, hag2, has_, hjp, hne, hrd_, hx16, hy17, htk, hgn] at A4
 simp only [hed, hgn]
 have HW := Aside0.mk (And.intro hed (And.intro hnr (And.intro hn2 (And.intro hs2 (And.intro hns (And.intro hst (And.intro hag2 (And.intro has_ (And.intro hjp (And.intro hne (And.intro hrd_ (And.intro hx16 (And.intro hy17 (And.intro htk hgn))))))))))))))
 have BN : Aside0 (w10.heap[gb447]? = some (.cells #[.int .i64 0, .int .i64 0, .int .i64 0, .int .i64 0, .int .i64 0, .int .i64 0, .int .i64 0] 67)) := BK447
 have BC : Aside0 (w10.heap[gb443]? = some (.cells #[.slice A0_0 l0_0.length c0_0, .slice A0_1 l0_1.length c0_1, .int .i64 a0_2, .int .i64 a0_3, .int .i64 a0_4, .int .i64 a0_5, .int .i64 a0_6, .int .i64 a0_7, .int .i64 a0_8, .int .i64 a0_9, .int .i64 a0_10, .int .i64 a0_11, .int .i64 a0_12] 25)) := BK443
 have BR : Aside0 (w10.heap[gb444]? = some (.cells #[.int .i64 0, .int .i64 0, .int .i64 0, .int .i64 0, .int .i64 0, .int .i64 0, .int .i64 0] 67)) := BK444
 clear BK447 BK443 BK444
 have BN_ : Aside0 ((((((((w10.setCell ⟨gb447, 0, none⟩ (.int .i64 ed)).setCell ⟨gb447, 1, none⟩ (.int .i64 0)).setCell ⟨gb447, 2, none⟩ (.int .i64 t446)).setCell ⟨gb447, 3, none⟩ (.int .i64 0)).setCell ⟨gb447, 4, none⟩ (.int .i64 0)).setCell ⟨gb447, 5, none⟩ (.int .i64 0)).setCell ⟨gb447, 6, none⟩ (.int .i64 gn)).heap[gb447]? = some (.cells #[.int .i64 ed, .int .i64 0, .int .i64 t446, .int .i64 0, .int .i64 0, .int .i64 0, .int .i64 gn] 67)) := ⟨by have h := (blk_set (blk_set (blk_set (blk_set (blk_set (blk_set (blk_set BN.out 0 (.int .i64 ed)) 1 (.int .i64 0)) 2 (.int .i64 t446)) 3 (.int .i64 0)) 4 (.int .i64 0)) 5 (.int .i64 0)) 6 (.int .i64 gn)); simpa using h⟩
 have BK_ : Aside0 (∀ k, k ≠ gb447 → (((((((w10.setCell ⟨gb447, 0, none⟩ (.int .i64 ed)).setCell ⟨gb447, 1, none⟩ (.int .i64 0)).setCell ⟨gb447, 2, none⟩ (.int .i64 t446)).setCell ⟨gb447, 3, none⟩ (.int .i64 0)).setCell ⟨gb447, 4, none⟩ (.int .i64 0)).setCell ⟨gb447, 5, none⟩ (.int .i64 0)).setCell ⟨gb447, 6, none⟩ (.int .i64 gn)).heap[k]? = w10.heap[k]?) := ⟨fun k hk => (Below.heap_setCell _ _ _ k hk).trans ((Below.heap_setCell _ _ _ k hk).trans ((Below.heap_setCell _ _ _ k hk).trans ((Below.heap_setCell _ _ _ k hk).trans ((Below.heap_setCell _ _ _ k hk).trans ((Below.heap_setCell _ _ _ k hk).trans (Below.heap_setCell _ _ _ k hk))))))⟩
 have HB_ : Aside0 (Below w.heap.size w (((((((w10.setCell ⟨gb447, 0, none⟩ (.int .i64 ed)).setCell ⟨gb447, 1, none⟩ (.int .i64 0)).setCell ⟨gb447, 2, none⟩ (.int .i64 t446)).setCell ⟨gb447, 3, none⟩ (.int .i64 0)).setCell ⟨gb447, 4, none⟩ (.int .i64 0)).setCell ⟨gb447, 5, none⟩ (.int .i64 0)).setCell ⟨gb447, 6, none⟩ (.int .i64 gn))) := ⟨(((((((HB.out.setCell GE447.out _).setCell GE447.out _).setCell GE447.out _).setCell GE447.out _).setCell GE447.out _).setCell GE447.out _).setCell GE447.out _)⟩
 generalize (((((((w10.setCell ⟨gb447, 0, none⟩ (.int .i64 ed)).setCell ⟨gb447, 1, none⟩ (.int .i64 0)).setCell ⟨gb447, 2, none⟩ (.int .i64 t446)).setCell ⟨gb447, 3, none⟩ (.int .i64 0)).setCell ⟨gb447, 4, none⟩ (.int .i64 0)).setCell ⟨gb447, 5, none⟩ (.int .i64 0)).setCell ⟨gb447, 6, none⟩ (.int .i64 gn)) = wA at *
 have BC_ := Aside0.mk ((BK_.out gb443 NB443_447.out).trans BC.out)
 have BR_ := Aside0.mk ((BK_.out gb444 NB444_447.out).trans BR.out)
 clear BN BC BR HB BK_
 have BN := BN_
 have BC := BC_
 have BR := BR_
 have HB := HB_
 clear BN_ BC_ BR_ HB_
 have qc0 : wA.cell? ⟨gb447, 0, none⟩ = some (.int .i64 ed) := (blk_cell BN.out 0).trans rfl
 have qf0 := blk_frozen BN.out 0
 have qc1 : wA.cell? ⟨gb447, 1, none⟩ = some (.int .i64 0) := (blk_cell BN.out 1).trans rfl
 have qf1 := blk_frozen BN.out 1
 have qc2 : wA.cell? ⟨gb447, 2, none⟩ = some (.int .i64 t446) := (blk_cell BN.out 2).trans rfl
 have qf2 := blk_frozen BN.out 2
 have qc3 : wA.cell? ⟨gb447, 3, none⟩ = some (.int .i64 0) := (blk_cell BN.out 3).trans rfl
 have qf3 := blk_frozen BN.out 3
 have qc4 : wA.cell? ⟨gb447, 4, none⟩ = some (.int .i64 0) := (blk_cell BN.out 4).trans rfl
 have qf4 := blk_frozen BN.out 4
 have qc5 : wA.cell? ⟨gb447, 5, none⟩ = some (.int .i64 0) := (blk_cell BN.out 5).trans rfl
 have qf5 := blk_frozen BN.out 5
 have qc6 : wA.cell? ⟨gb447, 6, none⟩ = some (.int .i64 gn) := (blk_cell BN.out 6).trans rfl
 have qf6 := blk_frozen BN.out 6
 have qx8 : wA.cell? ⟨gb443, 8, none⟩ = some (.int .i64 a0_8) := (blk_cell BC.out 8).trans rfl
 go_upto_region 4 with fail
 clear qc0 qf0 qc1 qf1 qc2 qf2 qc3 qf3 qc4 qf4 qc5 qf5 qc6 qf6 qx8
 have BN_ : Aside0 ((wA.setCell ⟨gb447, 1, none⟩ (.int .i64 nr)).heap[gb447]? = some (.cells #[.int .i64 ed, .int .i64 nr, .int .i64 t446, .int .i64 0, .int .i64 0, .int .i64 0, .int .i64 gn] 67)) := ⟨by have h := (blk_set BN.out 1 (.int .i64 nr)); simpa using h⟩
 have BK_ : Aside0 (∀ k, k ≠ gb447 → (wA.setCell ⟨gb447, 1, none⟩ (.int .i64 nr)).heap[k]? = wA.heap[k]?) := ⟨fun k hk => Below.heap_setCell _ _ _ k hk⟩
 have HB_ : Aside0 (Below w.heap.size w (wA.setCell ⟨gb447, 1, none⟩ (.int .i64 nr))) := ⟨(HB.out.setCell GE447.out _)⟩
 generalize (wA.setCell ⟨gb447, 1, none⟩ (.int .i64 nr)) = wB at *
 have BC_ := Aside0.mk ((BK_.out gb443 NB443_447.out).trans BC.out)
 have BR_ := Aside0.mk ((BK_.out gb444 NB444_447.out).trans BR.out)
 clear BN BC BR HB BK_
 have BN := BN_
 have BC := BC_
 have BR := BR_
 have HB := HB_
 clear BN_ BC_ BR_ HB_
 have qc0 : wB.cell? ⟨gb447, 0, none⟩ = some (.int .i64 ed) := (blk_cell BN.out 0).trans rfl
 have qf0 := blk_frozen BN.out 0
 have qc1 : wB.cell? ⟨gb447, 1, none⟩ = some (.int .i64 nr) := (blk_cell BN.out 1).trans rfl
 have qf1 := blk_frozen BN.out 1
 have qc2 : wB.cell? ⟨gb447, 2, none⟩ = some (.int .i64 t446) := (blk_cell BN.out 2).trans rfl
 have qf2 := blk_frozen BN.out 2
 have qc3 : wB.cell? ⟨gb447, 3, none⟩ = some (.int .i64 0) := (blk_cell BN.out 3).trans rfl
 have qf3 := blk_frozen BN.out 3
 have qc4 : wB.cell? ⟨gb447, 4, none⟩ = some (.int .i64 0) := (blk_cell BN.out 4).trans rfl
 have qf4 := blk_frozen BN.out 4
 have qc5 : wB.cell? ⟨gb447, 5, none⟩ = some (.int .i64 0) := (blk_cell BN.out 5).trans rfl
 have qf5 := blk_frozen BN.out 5
 have qc6 : wB.cell? ⟨gb447, 6, none⟩ = some (.int .i64 gn) := (blk_cell BN.out 6).trans rfl
 have qf6 := blk_frozen BN.out 6
 have qx8 : wB.cell? ⟨gb443, 8, none⟩ = some (.int .i64 a0_8) := (blk_cell BC.out 8).trans rfl
 go_upto_region 5 with fail
 clear qc0 qf0 qc1 qf1 qc2 qf2 qc3 qf3 qc4 qf4 qc5 qf5 qc6 qf6 qx8
 have BN_ : Aside0 ((wB.setCell ⟨gb447, 3, none⟩ (.int .i64 st)).heap[gb447]? = some (.cells #[.int .i64 ed, .int .i64 nr, .int .i64 t446, .int .i64 st, .int .i64 0, .int .i64 0, .int .i64 gn] 67)) := ⟨by have h := (blk_set BN.out 3 (.int .i64 st)); simpa using h⟩
 have BK_ : Aside0 (∀ k, k ≠ gb447 → (wB.setCell ⟨gb447, 3, none⟩ (.int .i64 st)).heap[k]? = wB.heap[k]?) := ⟨fun k hk => Below.heap_setCell _ _ _ k hk⟩
 have HB_ : Aside0 (Below w.heap.size w (wB.setCell ⟨gb447, 3, none⟩ (.int .i64 st))) := ⟨(HB.out.setCell GE447.out _)⟩
 generalize (wB.setCell ⟨gb447, 3, none⟩ (.int .i64 st)) = wC at *
 have BC_ := Aside0.mk ((BK_.out gb443 NB443_447.out).trans BC.out)
 have BR_ := Aside0.mk ((BK_.out gb444 NB444_447.out).trans BR.out)
 clear BN BC BR HB BK_
 have BN := BN_
 have BC := BC_
 have BR := BR_
 have HB := HB_
 clear BN_ BC_ BR_ HB_
 have qc0 : wC.cell? ⟨gb447, 0, none⟩ = some (.int .i64 ed) := (blk_cell BN.out 0).trans rfl
 have qf0 := blk_frozen BN.out 0
 have qc1 : wC.cell? ⟨gb447, 1, none⟩ = some (.int .i64 nr) := (blk_cell BN.out 1).trans rfl
 have qf1 := blk_frozen BN.out 1
 have qc2 : wC.cell? ⟨gb447, 2, none⟩ = some (.int .i64 t446) := (blk_cell BN.out 2).trans rfl
 have qf2 := blk_frozen BN.out 2
 have qc3 : wC.cell? ⟨gb447, 3, none⟩ = some (.int .i64 st) := (blk_cell BN.out 3).trans rfl
 have qf3 := blk_frozen BN.out 3
 have qc4 : wC.cell? ⟨gb447, 4, none⟩ = some (.int .i64 0) := (blk_cell BN.out 4).trans rfl
 have qf4 := blk_frozen BN.out 4
 have qc5 : wC.cell? ⟨gb447, 5, none⟩ = some (.int .i64 0) := (blk_cell BN.out 5).trans rfl
 have qf5 := blk_frozen BN.out 5
 have qc6 : wC.cell? ⟨gb447, 6, none⟩ = some (.int .i64 gn) := (blk_cell BN.out 6).trans rfl
 have qf6 := blk_frozen BN.out 6
 have qx8 : wC.cell? ⟨gb443, 8, none⟩ = some (.int .i64 a0_8) := (blk_cell BC.out 8).trans rfl
 go_upto_region 6 with fail
 clear qc0 qf0 qc1 qf1 qc2 qf2 qc3 qf3 qc4 qf4 qc5 qf5 qc6 qf6 qx8
 have BN_ : Aside0 ((wC.setCell ⟨gb447, 4, none⟩ (.int .i64 jp)).heap[gb447]? = some (.cells #[.int .i64 ed, .int .i64 nr, .int .i64 t446, .int .i64 st, .int .i64 jp, .int .i64 0, .int .i64 gn] 67)) := ⟨by have h := (blk_set BN.out 4 (.int .i64 jp)); simpa using h⟩
 have BK_ : Aside0 (∀ k, k ≠ gb447 → (wC.setCell ⟨gb447, 4, none⟩ (.int .i64 jp)).heap[k]? = wC.heap[k]?) := ⟨fun k hk => Below.heap_setCell _ _ _ k hk⟩
 have HB_ : Aside0 (Below w.heap.size w (wC.setCell ⟨gb447, 4, none⟩ (.int .i64 jp))) := ⟨(HB.out.setCell GE447.out _)⟩
 generalize (wC.setCell ⟨gb447, 4, none⟩ (.int .i64 jp)) = wD at *
 have BC_ := Aside0.mk ((BK_.out gb443 NB443_447.out).trans BC.out)
 have BR_ := Aside0.mk ((BK_.out gb444 NB444_447.out).trans BR.out)
 clear BN BC BR HB BK_
 have BN := BN_
 have BC := BC_
 have BR := BR_
 have HB := HB_
 clear BN_ BC_ BR_ HB_
 have BN_ : Aside0 (wD.drew.heap[gb447]? = some (.cells #[.int .i64 ed, .int .i64 nr, .int .i64 t446, .int .i64 st, .int .i64 jp, .int .i64 0, .int .i64 gn] 67)) := ⟨BN.out⟩
 have BC_ : Aside0 (wD.drew.heap[gb443]? = some (.cells #[.slice A0_0 l0_0.length c0_0, .slice A0_1 l0_1.length c0_1, .int .i64 a0_2, .int .i64 a0_3, .int .i64 a0_4, .int .i64 a0_5, .int .i64 a0_6, .int .i64 a0_7, .int .i64 a0_8, .int .i64 a0_9, .int .i64 a0_10, .int .i64 a0_11, .int .i64 a0_12] 25)) := ⟨BC.out⟩
 have BR_ : Aside0 (wD.drew.heap[gb444]? = some (.cells #[.int .i64 0, .int .i64 0, .int .i64 0, .int .i64 0, .int .i64 0, .int .i64 0, .int .i64 0] 67)) := ⟨BR.out⟩
 have HB_ : Aside0 (Below w.heap.size w wD.drew) := ⟨below_drew HB.out⟩
 clear BN BC BR HB
 have BN := BN_
 have BC := BC_
 have BR := BR_
 have HB := HB_
 clear BN_ BC_ BR_ HB_
 have d0 : wD.drew.cell? ⟨gb447, 0, none⟩ = some (.int .i64 ed) := (blk_cell BN.out 0).trans rfl
 have d1 : wD.drew.cell? ⟨gb447, 1, none⟩ = some (.int .i64 nr) := (blk_cell BN.out 1).trans rfl
 have d2 : wD.drew.cell? ⟨gb443, 7, none⟩ = some (.int .i64 a0_7) := (blk_cell BC.out 7).trans rfl
 have d3 : wD.drew.cell? ⟨gb443, 6, none⟩ = some (.int .i64 a0_6) := (blk_cell BC.out 6).trans rfl
 refine start_ (n := 18) (S := fun w' => w'.cell? ⟨gb447, 0, none⟩ = some (.int .i64 ed) ∧ w'.cell? ⟨gb447, 1, none⟩ = some (.int .i64 nr) ∧ w'.cell? ⟨gb443, 7, none⟩ = some (.int .i64 a0_7) ∧ w'.cell? ⟨gb443, 6, none⟩ = some (.int .i64 a0_6)) (ds := [17]) #[false, false, false, false, false, false, false, false, false, false, false, false, false, false, false, false, false, false] (by kernel_rfl) rfl rfl ⟨d0, d1, d2, d3⟩ (fun hHeld => ?_)
 generalize wD.drew = wd at BN BC BR HB d0 d1 d2 d3 hHeld ⊢
 refine pure_ (i := 0) (N := some 48) (v := ?_) (a' := ?_) #[true, false, false, false, false, false, false, false, false, false, false, false, false, false, false, false, false, false] rfl rfl (by kernel_rfl) (fun _ _ _ h => h) (Or.inl ⟨by rfl, ?_⟩) ?_ ?_
 rotate_left
 ·intro w'
  go_simp
  with_reducible rfl
 rotate_left
 ·simp only [Act.put, List.setIfInBounds_toArray, List.set_cons_zero, List.set_cons_succ, i64_w, i32_w]
  rfl
 refine pure_ (i := 2) (N := some 50) (v := ?_) (a' := ?_) #[true, false, true, false, false, false, false, false, false, false, false, false, false, false, false, false, false, false] rfl rfl (by kernel_rfl) (fun _ _ _ h => h) (Or.inl ⟨by rfl, ?_⟩) ?_ ?_
 rotate_left
 ·intro w'
  go_simp
  with_reducible rfl
 rotate_left
 ·simp only [Act.put, List.setIfInBounds_toArray, List.set_cons_zero, List.set_cons_succ, i64_w, i32_w]
  rfl
 refine pure_ (i := 5) (N := some 53) (v := ?_) (a' := ?_) #[true, false, true, false, false, true, false, false, false, false, false, false, false, false, false, false, false, false] rfl rfl (by kernel_rfl) (fun _ _ _ h => h) (Or.inl ⟨by rfl, ?_⟩) ?_ ?_
 rotate_left
 ·intro w'
  go_simp
  with_reducible rfl
 rotate_left
 ·simp only [Act.put, List.setIfInBounds_toArray, List.set_cons_zero, List.set_cons_succ, i64_w, i32_w]
  rfl
 refine pure_ (i := 7) (N := some 55) (v := ?_) (a' := ?_) #[true, false, true, false, false, true, false, true, false, false, false, false, false, false, false, false, false, false] rfl rfl (by kernel_rfl) (fun _ _ _ h => h) (Or.inl ⟨by rfl, ?_⟩) ?_ ?_
 rotate_left
 ·intro w'
  go_simp
  with_reducible rfl
 rotate_left
 ·simp only [Act.put, List.setIfInBounds_toArray, List.set_cons_zero, List.set_cons_succ, i64_w, i32_w]
  rfl
 refine pure_ (i := 9) (N := some 57) (v := ?_) (a' := ?_) #[true, false, true, false, false, true, false, true, false, true, false, false, false, false, false, false, false, false] rfl rfl (by kernel_rfl) (fun _ _ _ h => h) (Or.inl ⟨by rfl, ?_⟩) ?_ ?_
 rotate_left
 ·intro w'
  go_simp
  with_reducible rfl
 rotate_left
 ·simp only [Act.put, List.setIfInBounds_toArray, List.set_cons_zero, List.set_cons_succ, i64_w, i32_w]
  rfl
 refine take_ (i := 1) (N := some 49) (v := ?_) (a' := ?_) #[true, true, true, false, false, true, false, true, false, true, false, false, false, false, false, false, false, false] rfl rfl (by kernel_rfl) (fun _ _ _ h => h) (Or.inl ⟨by rfl, ?_⟩) hHeld ?_ ?_
 rotate_left
 ·rintro w' ⟨s0, s1, s2, s3⟩
  go_simp
  with_reducible rfl
 rotate_left
 ·simp only [Act.put, List.setIfInBounds_toArray, List.set_cons_zero, List.set_cons_succ, i64_w, i32_w]
  rfl
 refine take_ (i := 3) (N := some 51) (v := ?_) (a' := ?_) #[true, true, true, true, false, true, false, true, false, true, false, false, false, false, false, false, false, false] rfl rfl (by kernel_rfl) (fun _ _ _ h => h) (Or.inl ⟨by rfl, ?_⟩) hHeld ?_ ?_
 rotate_left
 ·rintro w' ⟨s0, s1, s2, s3⟩
  go_simp
  with_reducible rfl
 rotate_left
 ·simp only [Act.put, List.setIfInBounds_toArray, List.set_cons_zero, List.set_cons_succ, i64_w, i32_w]
  rfl
 refine pure_ (i := 4) (N := some 52) (v := ?_) (a' := ?_) #[true, true, true, true, true, true, false, true, false, true, false, false, false, false, false, false, false, false] rfl rfl (by kernel_rfl) (fun _ _ _ h => h) (Or.inl ⟨by rfl, ?_⟩) ?_ ?_
 rotate_left
 ·intro w'
  go_simp
  with_reducible rfl
 rotate_left
 ·simp only [Act.put, List.setIfInBounds_toArray, List.set_cons_zero, List.set_cons_succ, i64_w, i32_w]
  rfl
 refine take_ (i := 6) (N := some 54) (v := ?_) (a' := ?_) #[true, true, true, true, true, true, true, true, false, true, false, false, false, false, false, false, false, false] rfl rfl (by kernel_rfl) (fun _ _ _ h => h) (Or.inl ⟨by rfl, ?_⟩) hHeld ?_ ?_
 rotate_left
 ·rintro w' ⟨s0, s1, s2, s3⟩
  go_simp
  with_reducible rfl
 rotate_left
 ·simp only [Act.put, List.setIfInBounds_toArray, List.set_cons_zero, List.set_cons_succ, i64_w, i32_w]
  rfl
 refine take_ (i := 8) (N := some 56) (v := ?_) (a' := ?_) #[true, true, true, true, true, true, true, true, true, true, false, false, false, false, false, false, false, false] rfl rfl (by kernel_rfl) (fun _ _ _ h => h) (Or.inl ⟨by rfl, ?_⟩) hHeld ?_ ?_
 rotate_left
 ·rintro w' ⟨s0, s1, s2, s3⟩
  go_simp
  with_reducible rfl
 rotate_left
 ·simp only [Act.put, List.setIfInBounds_toArray, List.set_cons_zero, List.set_cons_succ, i64_w, i32_w]
  rfl
 refine take_ (i := 10) (N := some 58) (v := ?_) (a' := ?_) #[true, true, true, true, true, true, true, true, true, true, true, false, false, false, false, false, false, false] rfl rfl (by kernel_rfl) (fun _ _ _ h => h) (Or.inl ⟨by rfl, ?_⟩) hHeld ?_ ?_
 rotate_left
 ·rintro w' ⟨s0, s1, s2, s3⟩
  go_simp
  with_reducible rfl
 rotate_left
 ·simp only [Act.put, List.setIfInBounds_toArray, List.set_cons_zero, List.set_cons_succ, i64_w, i32_w]
  rfl
 refine pure_ (i := 11) (N := some 59) (v := ?_) (a' := ?_) #[true, true, true, true, true, true, true, true, true, true, true, true, false, false, false, false, false, false] rfl rfl (by kernel_rfl) (fun _ _ _ h => h) (Or.inl ⟨by rfl, ?_⟩) ?_ ?_
 rotate_left
 ·intro w'
  go_simp
  with_reducible rfl
 rotate_left
 ·simp only [Act.put, List.setIfInBounds_toArray, List.set_cons_zero, List.set_cons_succ, i64_w, i32_w]
  rfl
 refine pure_ (i := 12) (N := some 60) (v := ?_) (a' := ?_) #[true, true, true, true, true, true, true, true, true, true, true, true, true, false, false, false, false, false] rfl rfl (by kernel_rfl) (fun _ _ _ h => h) (Or.inl ⟨by rfl, ?_⟩) ?_ ?_
 rotate_left
 ·intro w'
  go_simp
  with_reducible rfl
 rotate_left
 ·simp only [Act.put, List.setIfInBounds_toArray, List.set_cons_zero, List.set_cons_succ, i64_w, i32_w]
  rfl
 refine one_ (i := 13) (N := some 61) #[true, true, true, true, true, true, true, true, true, true, true, true, true, true, false, false, false, false] rfl rfl (by kernel_rfl) (by decide) (fun K hK => ?_)
 refine goes_ Tryd.func69 (by kernel_rfl) rfl #[.int .i64 (wrap64 (nr * rd_))] (by rfl) rfl rfl (by simp only [List.map_toArray, List.map_cons, List.map_nil]; rfl) ?_
 rw [hx16]
 with_reducible refine (bounds_part.calls x16 t448 _ A4.out).mono ?_
 rintro e wE ⟨rfl, hD⟩
 have hb := hD.below
 have BN_ := Aside0.mk ((hb.block gb447 (blk_lt BN.out)).trans BN.out)
 have BC_ := Aside0.mk ((hb.block gb443 (blk_lt BC.out)).trans BC.out)
 have BR_ := Aside0.mk ((hb.block gb444 (blk_lt BR.out)).trans BR.out)
 have HB_ := Aside0.mk (below_step HB.out hb)
 clear BN BC BR HB hb hD
 have BN := BN_
 have BC := BC_
 have BR := BR_
 have HB := HB_
 clear BN_ BC_ BR_ HB_
 have f0 : wE.cell? ⟨gb447, 0, none⟩ = some (.int .i64 ed) := (blk_cell BN.out 0).trans rfl
 have f1 : wE.cell? ⟨gb447, 1, none⟩ = some (.int .i64 nr) := (blk_cell BN.out 1).trans rfl
 have f2 : wE.cell? ⟨gb443, 7, none⟩ = some (.int .i64 a0_7) := (blk_cell BC.out 7).trans rfl
 have f3 : wE.cell? ⟨gb443, 6, none⟩ = some (.int .i64 a0_6) := (blk_cell BC.out 6).trans rfl
 have f5 : wE.cell? ⟨gb447, 5, none⟩ = some (.int .i64 0) := (blk_cell BN.out 5).trans rfl
 have fz5 := blk_frozen BN.out 5
 refine ⟨_, rfl, ?_⟩
 refine hK.out _ _ ⟨f0, f1, f2, f3⟩ (fun hHeld => ?_)
 clear hK K
 refine norm_ (a' := ?_) ?_ ?_
 rotate_left
 ·show Act.put _ (some 61) _ = _
  simp only [Act.put, List.setIfInBounds_toArray, List.set_cons_zero, List.set_cons_succ, i64_w, i32_w]
  rfl
 refine pure_ (i := 14) (N := some 62) (v := ?_) (a' := ?_) #[true, true, true, true, true, true, true, true, true, true, true, true, true, true, true, false, false, false] rfl rfl (by kernel_rfl) (fun _ _ _ h => h) (Or.inl ⟨by rfl, ?_⟩) ?_ ?_
 rotate_left
 ·intro w'
  go_simp
  with_reducible rfl
 rotate_left
 ·simp only [Act.put, List.setIfInBounds_toArray, List.set_cons_zero, List.set_cons_succ, i64_w, i32_w]
  rfl
 refine pure_ (i := 15) (N := some 63) (v := ?_) (a' := ?_) #[true, true, true, true, true, true, true, true, true, true, true, true, true, true, true, true, false, false] rfl rfl (by kernel_rfl) (fun _ _ _ h => h) (Or.inl ⟨by rfl, ?_⟩) ?_ ?_
 rotate_left
 ·intro w'
  go_simp
  with_reducible rfl
 rotate_left
 ·simp only [Act.put, List.setIfInBounds_toArray, List.set_cons_zero, List.set_cons_succ, i64_w, i32_w]
  rfl
 refine pure_ (i := 16) (N := some 64) (v := ?_) (a' := ?_) #[true, true, true, true, true, true, true, true, true, true, true, true, true, true, true, true, true, false] rfl rfl (by kernel_rfl) (fun _ _ _ h => h) (Or.inl ⟨by rfl, ?_⟩) ?_ ?_
 rotate_left
 ·intro w'
  go_simp
  with_reducible rfl
 rotate_left
 ·simp only [Act.put, List.setIfInBounds_toArray, List.set_cons_zero, List.set_cons_succ, i64_w, i32_w]
  rfl
 refine last_ (i := 17) (N := none) #[true, true, true, true, true, true, true, true, true, true, true, true, true, true, true, true, true, true] rfl rfl (by kernel_rfl) (by decide) (fun K hK => ?_)
 refine skip_ (w1 := ?_) (by rfl) rfl ?_ ?_
 rotate_left
 ·go_simp
  rfl
 refine hK.out _ _ ?_
 clear hK K
 refine done_ (by kernel_rfl) ?_
 clear f0 f1 f2 f3 f5 fz5
 (try simp only [hrd_, hx16, hne, hy17, htk])
 have BN_ : Aside0 ((wE.setCell ⟨gb447, 5, none⟩ (.int .i64 tk)).heap[gb447]? = some (.cells #[.int .i64 ed, .int .i64 nr, .int .i64 t446, .int .i64 st, .int .i64 jp, .int .i64 tk, .int .i64 gn] 67)) := ⟨by have h := (blk_set BN.out 5 (.int .i64 tk)); simpa using h⟩
 have BK_ : Aside0 (∀ k, k ≠ gb447 → (wE.setCell ⟨gb447, 5, none⟩ (.int .i64 tk)).heap[k]? = wE.heap[k]?) := ⟨fun k hk => Below.heap_setCell _ _ _ k hk⟩
 have HB_ : Aside0 (Below w.heap.size w (wE.setCell ⟨gb447, 5, none⟩ (.int .i64 tk))) := ⟨(HB.out.setCell GE447.out _)⟩
 generalize (wE.setCell ⟨gb447, 5, none⟩ (.int .i64 tk)) = wF at *
 have BC_ := Aside0.mk ((BK_.out gb443 NB443_447.out).trans BC.out)
 have BR_ := Aside0.mk ((BK_.out gb444 NB444_447.out).trans BR.out)
 clear BN BC BR HB BK_
 have BN := BN_
 have BC := BC_
 have BR := BR_
 have HB := HB_
 clear BN_ BC_ BR_ HB_
 have qc0 : wF.cell? ⟨gb447, 0, none⟩ = some (.int .i64 ed) := (blk_cell BN.out 0).trans rfl
 have qf0 := blk_frozen BN.out 0
 have qc1 : wF.cell? ⟨gb447, 1, none⟩ = some (.int .i64 nr) := (blk_cell BN.out 1).trans rfl
 have qf1 := blk_frozen BN.out 1
 have qc2 : wF.cell? ⟨gb447, 2, none⟩ = some (.int .i64 t446) := (blk_cell BN.out 2).trans rfl
 have qf2 := blk_frozen BN.out 2
 have qc3 : wF.cell? ⟨gb447, 3, none⟩ = some (.int .i64 st) := (blk_cell BN.out 3).trans rfl
 have qf3 := blk_frozen BN.out 3
 have qc4 : wF.cell? ⟨gb447, 4, none⟩ = some (.int .i64 jp) := (blk_cell BN.out 4).trans rfl
 have qf4 := blk_frozen BN.out 4
 have qc5 : wF.cell? ⟨gb447, 5, none⟩ = some (.int .i64 tk) := (blk_cell BN.out 5).trans rfl
 have qf5 := blk_frozen BN.out 5
 have qc6 : wF.cell? ⟨gb447, 6, none⟩ = some (.int .i64 gn) := (blk_cell BN.out 6).trans rfl
 have qf6 := blk_frozen BN.out 6
 have qx8 : wF.cell? ⟨gb443, 8, none⟩ = some (.int .i64 a0_8) := (blk_cell BC.out 8).trans rfl
 have z0 : wF.cell? ⟨gb444, 0, none⟩ = some (.int .i64 0) := (blk_cell BR.out 0).trans rfl
 have zf0 := blk_frozen BR.out 0
 have z1 : wF.cell? ⟨gb444, 1, none⟩ = some (.int .i64 0) := (blk_cell BR.out 1).trans rfl
 have zf1 := blk_frozen BR.out 1
 have z2 : wF.cell? ⟨gb444, 2, none⟩ = some (.int .i64 0) := (blk_cell BR.out 2).trans rfl
 have zf2 := blk_frozen BR.out 2
 have z3 : wF.cell? ⟨gb444, 3, none⟩ = some (.int .i64 0) := (blk_cell BR.out 3).trans rfl
 have zf3 := blk_frozen BR.out 3
 have z4 : wF.cell? ⟨gb444, 4, none⟩ = some (.int .i64 0) := (blk_cell BR.out 4).trans rfl
 have zf4 := blk_frozen BR.out 4
 have z5 : wF.cell? ⟨gb444, 5, none⟩ = some (.int .i64 0) := (blk_cell BR.out 5).trans rfl
 have zf5 := blk_frozen BR.out 5
 have z6 : wF.cell? ⟨gb444, 6, none⟩ = some (.int .i64 0) := (blk_cell BR.out 6).trans rfl
 have zf6 := blk_frozen BR.out 6
 have hnb_ := NB444_447.out
 have hnc_ := NB447_444.out
 go_wp2_with fail
 refine bodyPost_ret (results_cell_row rfl _ _ gb444 67 #[.int .i64 ed, .int .i64 nr, .int .i64 t446, .int .i64 st, .int .i64 jp, .int .i64 tk, .int .i64 gn] (0, 0) _ rfl (by have h := (blk_set (blk_set (blk_set (blk_set (blk_set (blk_set (blk_set BR.out 0 (.int .i64 ed)) 1 (.int .i64 nr)) 2 (.int .i64 t446)) 3 (.int .i64 st)) 4 (.int .i64 jp)) 5 (.int .i64 tk)) 6 (.int .i64 gn)); simpa using h) Tryd.underlying67 rfl (by kernel_rfl)) rfl ?_
 refine ⟨?_, (((((((HB.out.setCell GE444.out _).setCell GE444.out _).setCell GE444.out _).setCell GE444.out _).setCell GE444.out _).setCell GE444.out _).setCell GE444.out _)⟩
 simp only [hed, hnr, hn2, hs2, hns, hst, hag2, has_, hjp, hne, hrd_, hx16, hy17, htk, hgn]


/-! ### bounds_in: function 45 -/
def bounds_in.f (k : Nat) (l0_0 : List (S60)) (l0_1 : List (S37)) (a0_2 : Int) (a0_3 : Int) (a0_4 : Int) (a0_5 : Int) (a0_6 : Int) (a0_7 : Int) (a0_8 : Int) (a0_9 : Int) (a0_10 : Int) (a0_11 : Int) (a0_12 : Int) : Option (Int × Int × Int × Int × Int × Int × Int) := (plan_Right.f l0_0 l0_1 a0_2 a0_3 a0_4 a0_5 a0_6 a0_7 a0_8 a0_9 a0_10 a0_11 a0_12).bind fun t451 => (if t451 = true then ((bounds_ranged.f k l0_0 l0_1 a0_2 a0_3 a0_4 a0_5 a0_6 a0_7 a0_8 a0_9 a0_10 a0_11 a0_12).bind fun t452 => (if t452 = 0 then ((bounds_Reckon.f l0_0 l0_1 a0_2 a0_3 a0_4 a0_5 a0_6 a0_7 a0_8 a0_9 a0_10 a0_11 a0_12).bind fun bt453 => (some (bt453.1, bt453.2.1, bt453.2.2.1, bt453.2.2.2.1, bt453.2.2.2.2.1, bt453.2.2.2.2.2.1, bt453.2.2.2.2.2.2))) else (some (0, 0, 0, 0, 0, 0, 0)))) else (some (0, 0, 0, 0, 0, 0, 0)))
theorem bounds_in.mono : ∀ a0 a1 a2 a3 a4 a5 a6 a7 a8 a9 a10 a11 a12 k, LeO (bounds_in.f k a0 a1 a2 a3 a4 a5 a6 a7 a8 a9 a10 a11 a12) (bounds_in.f (k + 1) a0 a1 a2 a3 a4 a5 a6 a7 a8 a9 a10 a11 a12) := by
 intro a0 a1 a2 a3 a4 a5 a6 a7 a8 a9 a10 a11 a12 k
 unfold bounds_in.f
 repeat' first
   | (with_reducible exact bounds_ranged.mono _ _ _ _ _ _ _ _ _ _ _ _ _ _)
   | (with_reducible exact LeO.refl _)
   | (with_reducible exact LeO.none _)
   | (with_reducible refine LeO.ite ?_ ?_)
   | (with_reducible refine LeO.bind ?_ (fun _ => ?_))
   | exact bounds_ranged.mono _ _ _ _ _ _ _ _ _ _ _ _ _ _
   | exact LeO.none _
   | refine LeO.ite ?_ ?_
   | refine LeO.bind ?_ (fun _ => ?_)
set_option maxHeartbeats 8000000 in
set_option maxRecDepth 100000 in
theorem bounds_in.calls (k : Nat) (A0_0 : Option Addr) (c0_0 : Nat) (l0_0 : List (S60)) (A0_1 : Option Addr) (c0_1 : Nat) (l0_1 : List (S37)) (a0_2 : Int) (a0_3 : Int) (a0_4 : Int) (a0_5 : Int) (a0_6 : Int) (a0_7 : Int) (a0_8 : Int) (a0_9 : Int) (a0_10 : Int) (a0_11 : Int) (a0_12 : Int) (r1 : Int) (r2 : Int) (r3 : Int) (r4 : Int) (r5 : Int) (r6 : Int) (r7 : Int) (w : World) (hr0_0 : Kd.C k60 w A0_0 l0_0.length l0_0) (hc0_0 : l0_0.length ≤ c0_0) (hr0_1 : Kd.C k37 w A0_1 l0_1.length l0_1) (hc0_1 : l0_1.length ≤ c0_1) (h : bounds_in.f k l0_0 l0_1 a0_2 a0_3 a0_4 a0_5 a0_6 a0_7 a0_8 a0_9 a0_10 a0_11 a0_12 = some (r1, r2, r3, r4, r5, r6, r7)) :
  Calls Tryd.prog 45 #[.agg #[.slice A0_0 l0_0.length c0_0, .slice A0_1 l0_1.length c0_1, .int .i64 a0_2, .int .i64 a0_3, .int .i64 a0_4, .int .i64 a0_5, .int .i64 a0_6, .int .i64 a0_7, .int .i64 a0_8, .int .i64 a0_9, .int .i64 a0_10, .int .i64 a0_11, .int .i64 a0_12]] w fun e w' => e = .returned (.agg #[.int .i64 r1, .int .i64 r2, .int .i64 r3, .int .i64 r4, .int .i64 r5, .int .i64 r6, .int .i64 r7]) ∧ Below w.heap.size w w' := by
 have hu25 := Tryd.underlying25
 have hu67 := Tryd.underlying67
 have HR0_0 := Aside0.mk hr0_0
 have HC0_0 := Aside0.mk hc0_0
 clear hr0_0 hc0_0
 have HR0_1 := Aside0.mk hr0_1
 have HC0_1 := Aside0.mk hc0_1
 clear hr0_1 hc0_1
 have HB := Aside0.mk (Below.refl w.heap.size w)
 have H : ((plan_Right.f l0_0 l0_1 a0_2 a0_3 a0_4 a0_5 a0_6 a0_7 a0_8 a0_9 a0_10 a0_11 a0_12).bind fun t451 => (if t451 = true then ((bounds_ranged.f k l0_0 l0_1 a0_2 a0_3 a0_4 a0_5 a0_6 a0_7 a0_8 a0_9 a0_10 a0_11 a0_12).bind fun t452 => (if t452 = 0 then ((bounds_Reckon.f l0_0 l0_1 a0_2 a0_3 a0_4 a0_5 a0_6 a0_7 a0_8 a0_9 a0_10 a0_11 a0_12).bind fun bt453 => (some (bt453.1, bt453.2.1, bt453.2.2.1, bt453.2.2.2.1, bt453.2.2.2.2.1, bt453.2.2.2.2.2.1, bt453.2.2.2.2.2.2))) else (some (0, 0, 0, 0, 0, 0, 0)))) else (some (0, 0, 0, 0, 0, 0, 0)))) = some (r1, r2, r3, r4, r5, r6, r7) := h
 clear h
 replace H := Option.bind_eq_some_iff.mp H
 obtain ⟨t451, A20, H⟩ := H
 replace H : (if t451 = true then ((bounds_ranged.f k l0_0 l0_1 a0_2 a0_3 a0_4 a0_5 a0_6 a0_7 a0_8 a0_9 a0_10 a0_11 a0_12).bind fun t452 => (if t452 = 0 then ((bounds_Reckon.f l0_0 l0_1 a0_2 a0_3 a0_4 a0_5 a0_6 a0_7 a0_8 a0_9 a0_10 a0_11 a0_12).bind fun bt453 => (some (bt453.1, bt453.2.1, bt453.2.2.1, bt453.2.2.2.1, bt453.2.2.2.2.1, bt453.2.2.2.2.2.1, bt453.2.2.2.2.2.2))) else (some (0, 0, 0, 0, 0, 0, 0)))) else (some (0, 0, 0, 0, 0, 0, 0))) = some (r1, r2, r3, r4, r5, r6, r7) := H
 have A2 := Aside0.mk A20
 clear A20
 by_cases c3 : t451 = true
 ·subst c3
  have H1 : ((bounds_ranged.f k l0_0 l0_1 a0_2 a0_3 a0_4 a0_5 a0_6 a0_7 a0_8 a0_9 a0_10 a0_11 a0_12).bind fun t452 => (if t452 = 0 then ((bounds_Reckon.f l0_0 l0_1 a0_2 a0_3 a0_4 a0_5 a0_6 a0_7 a0_8 a0_9 a0_10 a0_11 a0_12).bind fun bt453 => (some (bt453.1, bt453.2.1, bt453.2.2.1, bt453.2.2.2.1, bt453.2.2.2.2.1, bt453.2.2.2.2.2.1, bt453.2.2.2.2.2.2))) else (some (0, 0, 0, 0, 0, 0, 0)))) = some (r1, r2, r3, r4, r5, r6, r7) := by rw [if_pos rfl] at H; exact H
  clear H
  have H := H1
  clear H1
  replace H := Option.bind_eq_some_iff.mp H
  obtain ⟨t452, A40, H⟩ := H
  replace H : (if t452 = 0 then ((bounds_Reckon.f l0_0 l0_1 a0_2 a0_3 a0_4 a0_5 a0_6 a0_7 a0_8 a0_9 a0_10 a0_11 a0_12).bind fun bt453 => (some (bt453.1, bt453.2.1, bt453.2.2.1, bt453.2.2.2.1, bt453.2.2.2.2.1, bt453.2.2.2.2.2.1, bt453.2.2.2.2.2.2))) else (some (0, 0, 0, 0, 0, 0, 0))) = some (r1, r2, r3, r4, r5, r6, r7) := H
  have A4 := Aside0.mk A40
  clear A40
  by_cases c5 : t452 = 0
  ·rw [if_pos c5] at H
   have c5b0 : (t452 == 0) = true := beq_iff_eq.mpr c5
   have c5b1 : (t452 != 0) = false := bne_eq_false_iff_eq.mpr c5
   clear c5
   replace H := Option.bind_eq_some_iff.mp H
   obtain ⟨⟨t453, t454, t455, t456, t457, t458, t459⟩, A60, H⟩ := H
   replace H : (some (t453, t454, t455, t456, t457, t458, t459)) = some (r1, r2, r3, r4, r5, r6, r7) := H
   have A6 := Aside0.mk A60
   clear A60
   simp only [Option.some.injEq, Prod.mk.injEq] at H
   obtain ⟨rfl, rfl, rfl, rfl, rfl, rfl, rfl⟩ := H
   go_enter Tryd.func45, Tryd.ntmps45
   go_wp2_with (first | ((with_reducible refine gate_dst (N := 1) rfl ?_); refine box_event ?hg (N := 1) ?hd (cs := #[.slice A0_0 l0_0.length c0_0, .slice A0_1 l0_1.length c0_1, .int .i64 a0_2, .int .i64 a0_3, .int .i64 a0_4, .int .i64 a0_5, .int .i64 a0_6, .int .i64 a0_7, .int .i64 a0_8, .int .i64 a0_9, .int .i64 a0_10, .int .i64 a0_11, .int .i64 a0_12]) (t := 25) ?hr ?_; (case hd => rfl); (case hg => rfl); (case hr => first | (go_simp; done) | (go_simp; rfl)); intro gb449 hg w7 hbox hb; have n0_ := Aside0.mk (below_step (by repeat (first | (with_reducible first | exact HB.out | apply below_alloc | apply pw_below_drewN | apply below_drew1) | exact HB.out)) hb); have n1_ := Aside0.mk (hbox); have n2_ := Aside0.mk ((by rw [hg]; exact (below_size (by repeat (first | (with_reducible first | exact HB.out | apply below_alloc | apply pw_below_drewN | apply below_drew1) | exact HB.out))) : w.heap.size ≤ gb449)); have n3_ := Aside0.mk ((by rw [hg]; exact (below_size (by repeat (first | (with_reducible first | exact HB.out | apply below_alloc | apply pw_below_drewN | apply below_drew1) | exact HB.out))) : w.heap.size ≤ gb449)); clear HB; have HB := n0_; have BK449 := n1_; have GW449 := n2_; have GE449 := n3_; clear n0_ n1_ n2_ n3_; clear hb hbox hg) | ((with_reducible refine gate_dst (N := 2) rfl ?_); refine box_event ?hg (N := 2) ?hd (cs := #[.int .i64 0, .int .i64 0, .int .i64 0, .int .i64 0, .int .i64 0, .int .i64 0, .int .i64 0]) (t := 67) ?hr ?_; (case hd => rfl); (case hg => rfl); (case hr => first | (go_simp; done) | (go_simp; rfl)); intro gb450 hg w8 hbox hb; have n0_ := Aside0.mk (blk_below (g := gb449) (o := .cells #[.slice A0_0 l0_0.length c0_0, .slice A0_1 l0_1.length c0_1, .int .i64 a0_2, .int .i64 a0_3, .int .i64 a0_4, .int .i64 a0_5, .int .i64 a0_6, .int .i64 a0_7, .int .i64 a0_8, .int .i64 a0_9, .int .i64 a0_10, .int .i64 a0_11, .int .i64 a0_12] 25 (0, 0)) (by (with_reducible repeat (first | refine blk_drewN ?_ _ | refine blk_drew ?_ | refine blk_alloc ?_ _)); exact BK449.out) hb); have n1_ := Aside0.mk (below_step (by repeat (first | (with_reducible first | exact HB.out | apply below_alloc | apply pw_below_drewN | apply below_drew1 | refine below_set ?_ GE449.out) | exact HB.out)) hb); have n2_ := Aside0.mk (hbox); have n3_ := Aside0.mk ((by rw [hg]; exact (below_size (by repeat (first | (with_reducible first | exact HB.out | apply below_alloc | apply pw_below_drewN | apply below_drew1 | refine below_set ?_ GE449.out) | exact HB.out))) : w.heap.size ≤ gb450)); have n4_ := Aside0.mk ((by rw [hg]; exact (below_size (by repeat (first | (with_reducible first | exact HB.out | apply below_alloc | apply pw_below_drewN | apply below_drew1 | refine below_set ?_ GE449.out) | exact HB.out))) : w.heap.size ≤ gb450)); have n5_ := Aside0.mk ((by rw [hg]; exact Nat.ne_of_lt (blk_lt (g := gb449) (o := .cells #[.slice A0_0 l0_0.length c0_0, .slice A0_1 l0_1.length c0_1, .int .i64 a0_2, .int .i64 a0_3, .int .i64 a0_4, .int .i64 a0_5, .int .i64 a0_6, .int .i64 a0_7, .int .i64 a0_8, .int .i64 a0_9, .int .i64 a0_10, .int .i64 a0_11, .int .i64 a0_12] 25 (0, 0)) (by (with_reducible repeat (first | refine blk_drewN ?_ _ | refine blk_drew ?_ | refine blk_alloc ?_ _)); exact BK449.out)) : gb449 ≠ gb450)); have n6_ := Aside0.mk ((by rw [hg]; exact Nat.ne_of_gt (blk_lt (g := gb449) (o := .cells #[.slice A0_0 l0_0.length c0_0, .slice A0_1 l0_1.length c0_1, .int .i64 a0_2, .int .i64 a0_3, .int .i64 a0_4, .int .i64 a0_5, .int .i64 a0_6, .int .i64 a0_7, .int .i64 a0_8, .int .i64 a0_9, .int .i64 a0_10, .int .i64 a0_11, .int .i64 a0_12] 25 (0, 0)) (by (with_reducible repeat (first | refine blk_drewN ?_ _ | refine blk_drew ?_ | refine blk_alloc ?_ _)); exact BK449.out)) : gb450 ≠ gb449)); clear BK449; clear HB; have BK449 := n0_; have HB := n1_; have BK450 := n2_; have GW450 := n3_; have GE450 := n4_; have NB449_450 := n5_; have NB450_449 := n6_; clear n0_ n1_ n2_ n3_ n4_ n5_ n6_; clear hb hbox hg; have hnb9 := NB449_450.out; have hnc9 := NB450_449.out; obtain ⟨hcz10_0, hcz10_1, hcz10_2, hcz10_3, hcz10_4, hcz10_5, hcz10_6, hcz10_7, hcz10_8, hcz10_9, hcz10_10, hcz10_11, hcz10_12⟩ := cellsK13 BK449.out; obtain ⟨hfz10_0, hfz10_1, hfz10_2, hfz10_3, hfz10_4, hfz10_5, hfz10_6, hfz10_7, hfz10_8, hfz10_9, hfz10_10, hfz10_11, hfz10_12⟩ := frozK13 BK449.out) | ((with_reducible refine gate_callee (f := 38) rfl ?_); refine goesL_ (some 4) rfl rfl Tryd.func38 (by kernel_rfl) rfl #[.agg #[.slice A0_0 l0_0.length c0_0, .slice A0_1 l0_1.length c0_1, .int .i64 a0_2, .int .i64 a0_3, .int .i64 a0_4, .int .i64 a0_5, .int .i64 a0_6, .int .i64 a0_7, .int .i64 a0_8, .int .i64 a0_9, .int .i64 a0_10, .int .i64 a0_11, .int .i64 a0_12]] rfl (by (try simp only [List.map_toArray, List.map_cons, List.map_nil]); first | done | rfl | (simp only [List.length_drop, List.length_take]; rfl)) ?_; (with_reducible refine (plan_Right.calls _ _ l0_0 _ _ l0_1 a0_2 a0_3 a0_4 a0_5 a0_6 a0_7 a0_8 a0_9 a0_10 a0_11 a0_12 true _ ?side1 ?side2 ?side3 ?side4 A2.out).mono ?_); (case side1 => repeat (first | exact (Kd.C_below HR0_0.out HB.out) | (with_reducible refine Kd.C_alloc ?_ _) | (with_reducible refine Kd.C_drewN ?_ _) | (with_reducible refine Kd.C_drew ?_))); (case side2 => exact HC0_0.out); (case side3 => repeat (first | exact (Kd.C_below HR0_1.out HB.out) | (with_reducible refine Kd.C_alloc ?_ _) | (with_reducible refine Kd.C_drewN ?_ _) | (with_reducible refine Kd.C_drew ?_))); (case side4 => exact HC0_1.out); rintro e w11 ⟨rfl, hb⟩; refine ⟨_, rfl, ?_⟩; have n0_ := Aside0.mk (blk_below (g := gb449) (o := .cells #[.slice A0_0 l0_0.length c0_0, .slice A0_1 l0_1.length c0_1, .int .i64 a0_2, .int .i64 a0_3, .int .i64 a0_4, .int .i64 a0_5, .int .i64 a0_6, .int .i64 a0_7, .int .i64 a0_8, .int .i64 a0_9, .int .i64 a0_10, .int .i64 a0_11, .int .i64 a0_12] 25 (0, 0)) (by (with_reducible repeat (first | refine blk_drewN ?_ _ | refine blk_drew ?_ | refine blk_alloc ?_ _)); exact BK449.out) hb); have n1_ := Aside0.mk (blk_below (g := gb450) (o := .cells #[.int .i64 0, .int .i64 0, .int .i64 0, .int .i64 0, .int .i64 0, .int .i64 0, .int .i64 0] 67 (0, 0)) (by (with_reducible repeat (first | refine blk_drewN ?_ _ | refine blk_drew ?_ | refine blk_alloc ?_ _)); exact BK450.out) hb); have n2_ := Aside0.mk (below_step (by repeat (first | (with_reducible first | exact HB.out | apply below_alloc | apply pw_below_drewN | apply below_drew1 | refine below_set ?_ GE449.out | refine below_set ?_ GE450.out) | exact HB.out)) hb); clear BK449; clear BK450; clear HB; have BK449 := n0_; have BK450 := n1_; have HB := n2_; clear n0_ n1_ n2_; (try clear hb); (try clear hb2); (try clear hk); (try clear hi); obtain ⟨hcz12_0, hcz12_1, hcz12_2, hcz12_3, hcz12_4, hcz12_5, hcz12_6, hcz12_7, hcz12_8, hcz12_9, hcz12_10, hcz12_11, hcz12_12⟩ := cellsK13 BK449.out; obtain ⟨hfz12_0, hfz12_1, hfz12_2, hfz12_3, hfz12_4, hfz12_5, hfz12_6, hfz12_7, hfz12_8, hfz12_9, hfz12_10, hfz12_11, hfz12_12⟩ := frozK13 BK449.out) | (go_at_call 58; (with_reducible refine (bounds_ranged.calls k _ _ l0_0 _ _ l0_1 a0_2 a0_3 a0_4 a0_5 a0_6 a0_7 a0_8 a0_9 a0_10 a0_11 a0_12 t452 _ ?side1 ?side2 ?side3 ?side4 A4.out).mono ?_); (case side1 => repeat (first | exact (Kd.C_below HR0_0.out HB.out) | (with_reducible refine Kd.C_alloc ?_ _) | (with_reducible refine Kd.C_drewN ?_ _) | (with_reducible refine Kd.C_drew ?_))); (case side2 => exact HC0_0.out); (case side3 => repeat (first | exact (Kd.C_below HR0_1.out HB.out) | (with_reducible refine Kd.C_alloc ?_ _) | (with_reducible refine Kd.C_drewN ?_ _) | (with_reducible refine Kd.C_drew ?_))); (case side4 => exact HC0_1.out); rintro e w13 ⟨rfl, hb⟩; have n0_ := Aside0.mk (blk_below (g := gb449) (o := .cells #[.slice A0_0 l0_0.length c0_0, .slice A0_1 l0_1.length c0_1, .int .i64 a0_2, .int .i64 a0_3, .int .i64 a0_4, .int .i64 a0_5, .int .i64 a0_6, .int .i64 a0_7, .int .i64 a0_8, .int .i64 a0_9, .int .i64 a0_10, .int .i64 a0_11, .int .i64 a0_12] 25 (0, 0)) (by (with_reducible repeat (first | refine blk_drewN ?_ _ | refine blk_drew ?_ | refine blk_alloc ?_ _)); exact BK449.out) hb); have n1_ := Aside0.mk (blk_below (g := gb450) (o := .cells #[.int .i64 0, .int .i64 0, .int .i64 0, .int .i64 0, .int .i64 0, .int .i64 0, .int .i64 0] 67 (0, 0)) (by (with_reducible repeat (first | refine blk_drewN ?_ _ | refine blk_drew ?_ | refine blk_alloc ?_ _)); exact BK450.out) hb); have n2_ := Aside0.mk (below_step (by repeat (first | (with_reducible first | exact HB.out | apply below_alloc | apply pw_below_drewN | apply below_drew1 | refine below_set ?_ GE449.out | refine below_set ?_ GE450.out) | exact HB.out)) hb); clear BK449; clear BK450; clear HB; have BK449 := n0_; have BK450 := n1_; have HB := n2_; clear n0_ n1_ n2_; (try clear hb); (try clear hb2); (try clear hk); (try clear hi); obtain ⟨hcz14_0, hcz14_1, hcz14_2, hcz14_3, hcz14_4, hcz14_5, hcz14_6, hcz14_7, hcz14_8, hcz14_9, hcz14_10, hcz14_11, hcz14_12⟩ := cellsK13 BK449.out; obtain ⟨hfz14_0, hfz14_1, hfz14_2, hfz14_3, hfz14_4, hfz14_5, hfz14_6, hfz14_7, hfz14_8, hfz14_9, hfz14_10, hfz14_11, hfz14_12⟩ := frozK13 BK449.out) | ((with_reducible refine gate_callee (f := 59) rfl ?_); refine goesL_ (some 13) rfl rfl Tryd.func59 (by kernel_rfl) rfl #[.agg #[.slice A0_0 l0_0.length c0_0, .slice A0_1 l0_1.length c0_1, .int .i64 a0_2, .int .i64 a0_3, .int .i64 a0_4, .int .i64 a0_5, .int .i64 a0_6, .int .i64 a0_7, .int .i64 a0_8, .int .i64 a0_9, .int .i64 a0_10, .int .i64 a0_11, .int .i64 a0_12]] rfl (by (try simp only [List.map_toArray, List.map_cons, List.map_nil]); first | done | rfl | (simp only [List.length_drop, List.length_take]; rfl)) ?_; (with_reducible refine (bounds_Reckon.calls _ _ l0_0 _ _ l0_1 a0_2 a0_3 a0_4 a0_5 a0_6 a0_7 a0_8 a0_9 a0_10 a0_11 a0_12 t453 t454 t455 t456 t457 t458 t459 _ ?side1 ?side2 ?side3 ?side4 A6.out).mono ?_); (case side1 => repeat (first | exact (Kd.C_below HR0_0.out HB.out) | (with_reducible refine Kd.C_alloc ?_ _) | (with_reducible refine Kd.C_drewN ?_ _) | (with_reducible refine Kd.C_drew ?_))); (case side2 => exact HC0_0.out); (case side3 => repeat (first | exact (Kd.C_below HR0_1.out HB.out) | (with_reducible refine Kd.C_alloc ?_ _) | (with_reducible refine Kd.C_drewN ?_ _) | (with_reducible refine Kd.C_drew ?_))); (case side4 => exact HC0_1.out); rintro e w15 ⟨rfl, hb⟩; refine ⟨_, rfl, ?_⟩; have n0_ := Aside0.mk (blk_below (g := gb449) (o := .cells #[.slice A0_0 l0_0.length c0_0, .slice A0_1 l0_1.length c0_1, .int .i64 a0_2, .int .i64 a0_3, .int .i64 a0_4, .int .i64 a0_5, .int .i64 a0_6, .int .i64 a0_7, .int .i64 a0_8, .int .i64 a0_9, .int .i64 a0_10, .int .i64 a0_11, .int .i64 a0_12] 25 (0, 0)) (by (with_reducible repeat (first | refine blk_drewN ?_ _ | refine blk_drew ?_ | refine blk_alloc ?_ _)); exact BK449.out) hb); have n1_ := Aside0.mk (blk_below (g := gb450) (o := .cells #[.int .i64 0, .int .i64 0, .int .i64 0, .int .i64 0, .int .i64 0, .int .i64 0, .int .i64 0] 67 (0, 0)) (by (with_reducible repeat (first | refine blk_drewN ?_ _ | refine blk_drew ?_ | refine blk_alloc ?_ _)); exact BK450.out) hb); have n2_ := Aside0.mk (below_step (by repeat (first | (with_reducible first | exact HB.out | apply below_alloc | apply pw_below_drewN | apply below_drew1 | refine below_set ?_ GE449.out | refine below_set ?_ GE450.out) | exact HB.out)) hb); clear BK449; clear BK450; clear HB; have BK449 := n0_; have BK450 := n1_; have HB := n2_; clear n0_ n1_ n2_; (try clear hb); (try clear hb2); (try clear hk); (try clear hi); obtain ⟨hcz16_0, hcz16_1, hcz16_2, hcz16_3, hcz16_4, hcz16_5, hcz16_6⟩ := cellsK7 BK450.out; obtain ⟨hfz16_0, hfz16_1, hfz16_2, hfz16_3, hfz16_4, hfz16_5, hfz16_6⟩ := frozK7 BK450.out))
   refine bodyPost_ret (results_cell_row rfl _ _ gb450 67 #[.int .i64 t453, .int .i64 t454, .int .i64 t455, .int .i64 t456, .int .i64 t457, .int .i64 t458, .int .i64 t459] (0, 0) _ rfl (by (with_reducible repeat (first | refine blk_drewN ?_ _ | refine blk_drew ?_ | refine blk_alloc ?_ _)); refine blk_put (cs := #[.int .i64 t453, .int .i64 t454, .int .i64 t455, .int .i64 t456, .int .i64 t457, .int .i64 t458, .int .i64 0]) ?_ 6 _ rfl; (with_reducible repeat (first | refine blk_drewN ?_ _ | refine blk_drew ?_ | refine blk_alloc ?_ _)); refine blk_put (cs := #[.int .i64 t453, .int .i64 t454, .int .i64 t455, .int .i64 t456, .int .i64 t457, .int .i64 0, .int .i64 0]) ?_ 5 _ rfl; (with_reducible repeat (first | refine blk_drewN ?_ _ | refine blk_drew ?_ | refine blk_alloc ?_ _)); refine blk_put (cs := #[.int .i64 t453, .int .i64 t454, .int .i64 t455, .int .i64 t456, .int .i64 0, .int .i64 0, .int .i64 0]) ?_ 4 _ rfl; (with_reducible repeat (first | refine blk_drewN ?_ _ | refine blk_drew ?_ | refine blk_alloc ?_ _)); refine blk_put (cs := #[.int .i64 t453, .int .i64 t454, .int .i64 t455, .int .i64 0, .int .i64 0, .int .i64 0, .int .i64 0]) ?_ 3 _ rfl; (with_reducible repeat (first | refine blk_drewN ?_ _ | refine blk_drew ?_ | refine blk_alloc ?_ _)); refine blk_put (cs := #[.int .i64 t453, .int .i64 t454, .int .i64 0, .int .i64 0, .int .i64 0, .int .i64 0, .int .i64 0]) ?_ 2 _ rfl; (with_reducible repeat (first | refine blk_drewN ?_ _ | refine blk_drew ?_ | refine blk_alloc ?_ _)); refine blk_put (cs := #[.int .i64 t453, .int .i64 0, .int .i64 0, .int .i64 0, .int .i64 0, .int .i64 0, .int .i64 0]) ?_ 1 _ rfl; (with_reducible repeat (first | refine blk_drewN ?_ _ | refine blk_drew ?_ | refine blk_alloc ?_ _)); refine blk_put (cs := #[.int .i64 0, .int .i64 0, .int .i64 0, .int .i64 0, .int .i64 0, .int .i64 0, .int .i64 0]) ?_ 0 _ rfl; (with_reducible repeat (first | refine blk_drewN ?_ _ | refine blk_drew ?_ | refine blk_alloc ?_ _)); exact BK450.out) Tryd.underlying67 rfl (by kernel_rfl)) rfl ?_
   exact ⟨by first | rfl | (simp [errW_none, errW_some] <;> rfl) | (simp [*, errW_none, errW_some] <;> rfl), by repeat (first | (with_reducible first | exact HB.out | apply below_alloc | apply pw_below_drewN | apply below_drew1 | refine below_set ?_ GE449.out | refine below_set ?_ GE450.out) | exact HB.out)⟩
  ·rw [if_neg c5] at H
   have c5b0 : (t452 == 0) = false := beq_eq_false_iff_ne.mpr c5
   have c5b1 : (t452 != 0) = true := bne_iff_ne.mpr c5
   simp only [Option.some.injEq, Prod.mk.injEq] at H
   obtain ⟨rfl, rfl, rfl, rfl, rfl, rfl, rfl⟩ := H
   go_enter Tryd.func45, Tryd.ntmps45
   go_wp2_with (first | ((with_reducible refine gate_dst (N := 1) rfl ?_); refine box_event ?hg (N := 1) ?hd (cs := #[.slice A0_0 l0_0.length c0_0, .slice A0_1 l0_1.length c0_1, .int .i64 a0_2, .int .i64 a0_3, .int .i64 a0_4, .int .i64 a0_5, .int .i64 a0_6, .int .i64 a0_7, .int .i64 a0_8, .int .i64 a0_9, .int .i64 a0_10, .int .i64 a0_11, .int .i64 a0_12]) (t := 25) ?hr ?_; (case hd => rfl); (case hg => rfl); (case hr => first | (go_simp; done) | (go_simp; rfl)); intro gb449 hg w17 hbox hb; have n0_ := Aside0.mk (below_step (by repeat (first | (with_reducible first | exact HB.out | apply below_alloc | apply pw_below_drewN | apply below_drew1) | exact HB.out)) hb); have n1_ := Aside0.mk (hbox); have n2_ := Aside0.mk ((by rw [hg]; exact (below_size (by repeat (first | (with_reducible first | exact HB.out | apply below_alloc | apply pw_below_drewN | apply below_drew1) | exact HB.out))) : w.heap.size ≤ gb449)); have n3_ := Aside0.mk ((by rw [hg]; exact (below_size (by repeat (first | (with_reducible first | exact HB.out | apply below_alloc | apply pw_below_drewN | apply below_drew1) | exact HB.out))) : w.heap.size ≤ gb449)); clear HB; have HB := n0_; have BK449 := n1_; have GW449 := n2_; have GE449 := n3_; clear n0_ n1_ n2_ n3_; clear hb hbox hg) | ((with_reducible refine gate_dst (N := 2) rfl ?_); refine box_event ?hg (N := 2) ?hd (cs := #[.int .i64 0, .int .i64 0, .int .i64 0, .int .i64 0, .int .i64 0, .int .i64 0, .int .i64 0]) (t := 67) ?hr ?_; (case hd => rfl); (case hg => rfl); (case hr => first | (go_simp; done) | (go_simp; rfl)); intro gb450 hg w18 hbox hb; have n0_ := Aside0.mk (blk_below (g := gb449) (o := .cells #[.slice A0_0 l0_0.length c0_0, .slice A0_1 l0_1.length c0_1, .int .i64 a0_2, .int .i64 a0_3, .int .i64 a0_4, .int .i64 a0_5, .int .i64 a0_6, .int .i64 a0_7, .int .i64 a0_8, .int .i64 a0_9, .int .i64 a0_10, .int .i64 a0_11, .int .i64 a0_12] 25 (0, 0)) (by (with_reducible repeat (first | refine blk_drewN ?_ _ | refine blk_drew ?_ | refine blk_alloc ?_ _)); exact BK449.out) hb); have n1_ := Aside0.mk (below_step (by repeat (first | (with_reducible first | exact HB.out | apply below_alloc | apply pw_below_drewN | apply below_drew1 | refine below_set ?_ GE449.out) | exact HB.out)) hb); have n2_ := Aside0.mk (hbox); have n3_ := Aside0.mk ((by rw [hg]; exact (below_size (by repeat (first | (with_reducible first | exact HB.out | apply below_alloc | apply pw_below_drewN | apply below_drew1 | refine below_set ?_ GE449.out) | exact HB.out))) : w.heap.size ≤ gb450)); have n4_ := Aside0.mk ((by rw [hg]; exact (below_size (by repeat (first | (with_reducible first | exact HB.out | apply below_alloc | apply pw_below_drewN | apply below_drew1 | refine below_set ?_ GE449.out) | exact HB.out))) : w.heap.size ≤ gb450)); have n5_ := Aside0.mk ((by rw [hg]; exact Nat.ne_of_lt (blk_lt (g := gb449) (o := .cells #[.slice A0_0 l0_0.length c0_0, .slice A0_1 l0_1.length c0_1, .int .i64 a0_2, .int .i64 a0_3, .int .i64 a0_4, .int .i64 a0_5, .int .i64 a0_6, .int .i64 a0_7, .int .i64 a0_8, .int .i64 a0_9, .int .i64 a0_10, .int .i64 a0_11, .int .i64 a0_12] 25 (0, 0)) (by (with_reducible repeat (first | refine blk_drewN ?_ _ | refine blk_drew ?_ | refine blk_alloc ?_ _)); exact BK449.out)) : gb449 ≠ gb450)); have n6_ := Aside0.mk ((by rw [hg]; exact Nat.ne_of_gt (blk_lt (g := gb449) (o := .cells #[.slice A0_0 l0_0.length c0_0, .slice A0_1 l0_1.length c0_1, .int .i64 a0_2, .int .i64 a0_3, .int .i64 a0_4, .int .i64 a0_5, .int .i64 a0_6, .int .i64 a0_7, .int .i64 a0_8, .int .i64 a0_9, .int .i64 a0_10, .int .i64 a0_11, .int .i64 a0_12] 25 (0, 0)) (by (with_reducible repeat (first | refine blk_drewN ?_ _ | refine blk_drew ?_ | refine blk_alloc ?_ _)); exact BK449.out)) : gb450 ≠ gb449)); clear BK449; clear HB; have BK449 := n0_; have HB := n1_; have BK450 := n2_; have GW450 := n3_; have GE450 := n4_; have NB449_450 := n5_; have NB450_449 := n6_; clear n0_ n1_ n2_ n3_ n4_ n5_ n6_; clear hb hbox hg; have hnb19 := NB449_450.out; have hnc19 := NB450_449.out; obtain ⟨hcz20_0, hcz20_1, hcz20_2, hcz20_3, hcz20_4, hcz20_5, hcz20_6, hcz20_7, hcz20_8, hcz20_9, hcz20_10, hcz20_11, hcz20_12⟩ := cellsK13 BK449.out; obtain ⟨hfz20_0, hfz20_1, hfz20_2, hfz20_3, hfz20_4, hfz20_5, hfz20_6, hfz20_7, hfz20_8, hfz20_9, hfz20_10, hfz20_11, hfz20_12⟩ := frozK13 BK449.out) | ((with_reducible refine gate_callee (f := 38) rfl ?_); refine goesL_ (some 4) rfl rfl Tryd.func38 (by kernel_rfl) rfl #[.agg #[.slice A0_0 l0_0.length c0_0, .slice A0_1 l0_1.length c0_1, .int .i64 a0_2, .int .i64 a0_3, .int .i64 a0_4, .int .i64 a0_5, .int .i64 a0_6, .int .i64 a0_7, .int .i64 a0_8, .int .i64 a0_9, .int .i64 a0_10, .int .i64 a0_11, .int .i64 a0_12]] rfl (by (try simp only [List.map_toArray, List.map_cons, List.map_nil]); first | done | rfl | (simp only [List.length_drop, List.length_take]; rfl)) ?_; (with_reducible refine (plan_Right.calls _ _ l0_0 _ _ l0_1 a0_2 a0_3 a0_4 a0_5 a0_6 a0_7 a0_8 a0_9 a0_10 a0_11 a0_12 true _ ?side1 ?side2 ?side3 ?side4 A2.out).mono ?_); (case side1 => repeat (first | exact (Kd.C_below HR0_0.out HB.out) | (with_reducible refine Kd.C_alloc ?_ _) | (with_reducible refine Kd.C_drewN ?_ _) | (with_reducible refine Kd.C_drew ?_))); (case side2 => exact HC0_0.out); (case side3 => repeat (first | exact (Kd.C_below HR0_1.out HB.out) | (with_reducible refine Kd.C_alloc ?_ _) | (with_reducible refine Kd.C_drewN ?_ _) | (with_reducible refine Kd.C_drew ?_))); (case side4 => exact HC0_1.out); rintro e w21 ⟨rfl, hb⟩; refine ⟨_, rfl, ?_⟩; have n0_ := Aside0.mk (blk_below (g := gb449) (o := .cells #[.slice A0_0 l0_0.length c0_0, .slice A0_1 l0_1.length c0_1, .int .i64 a0_2, .int .i64 a0_3, .int .i64 a0_4, .int .i64 a0_5, .int .i64 a0_6, .int .i64 a0_7, .int .i64 a0_8, .int .i64 a0_9, .int .i64 a0_10, .int .i64 a0_11, .int .i64 a0_12] 25 (0, 0)) (by (with_reducible repeat (first | refine blk_drewN ?_ _ | refine blk_drew ?_ | refine blk_alloc ?_ _)); exact BK449.out) hb); have n1_ := Aside0.mk (blk_below (g := gb450) (o := .cells #[.int .i64 0, .int .i64 0, .int .i64 0, .int .i64 0, .int .i64 0, .int .i64 0, .int .i64 0] 67 (0, 0)) (by (with_reducible repeat (first | refine blk_drewN ?_ _ | refine blk_drew ?_ | refine blk_alloc ?_ _)); exact BK450.out) hb); have n2_ := Aside0.mk (below_step (by repeat (first | (with_reducible first | exact HB.out | apply below_alloc | apply pw_below_drewN | apply below_drew1 | refine below_set ?_ GE449.out | refine below_set ?_ GE450.out) | exact HB.out)) hb); clear BK449; clear BK450; clear HB; have BK449 := n0_; have BK450 := n1_; have HB := n2_; clear n0_ n1_ n2_; (try clear hb); (try clear hb2); (try clear hk); (try clear hi); obtain ⟨hcz22_0, hcz22_1, hcz22_2, hcz22_3, hcz22_4, hcz22_5, hcz22_6, hcz22_7, hcz22_8, hcz22_9, hcz22_10, hcz22_11, hcz22_12⟩ := cellsK13 BK449.out; obtain ⟨hfz22_0, hfz22_1, hfz22_2, hfz22_3, hfz22_4, hfz22_5, hfz22_6, hfz22_7, hfz22_8, hfz22_9, hfz22_10, hfz22_11, hfz22_12⟩ := frozK13 BK449.out) | (go_at_call 58; (with_reducible refine (bounds_ranged.calls k _ _ l0_0 _ _ l0_1 a0_2 a0_3 a0_4 a0_5 a0_6 a0_7 a0_8 a0_9 a0_10 a0_11 a0_12 t452 _ ?side1 ?side2 ?side3 ?side4 A4.out).mono ?_); (case side1 => repeat (first | exact (Kd.C_below HR0_0.out HB.out) | (with_reducible refine Kd.C_alloc ?_ _) | (with_reducible refine Kd.C_drewN ?_ _) | (with_reducible refine Kd.C_drew ?_))); (case side2 => exact HC0_0.out); (case side3 => repeat (first | exact (Kd.C_below HR0_1.out HB.out) | (with_reducible refine Kd.C_alloc ?_ _) | (with_reducible refine Kd.C_drewN ?_ _) | (with_reducible refine Kd.C_drew ?_))); (case side4 => exact HC0_1.out); rintro e w23 ⟨rfl, hb⟩; have n0_ := Aside0.mk (blk_below (g := gb449) (o := .cells #[.slice A0_0 l0_0.length c0_0, .slice A0_1 l0_1.length c0_1, .int .i64 a0_2, .int .i64 a0_3, .int .i64 a0_4, .int .i64 a0_5, .int .i64 a0_6, .int .i64 a0_7, .int .i64 a0_8, .int .i64 a0_9, .int .i64 a0_10, .int .i64 a0_11, .int .i64 a0_12] 25 (0, 0)) (by (with_reducible repeat (first | refine blk_drewN ?_ _ | refine blk_drew ?_ | refine blk_alloc ?_ _)); exact BK449.out) hb); have n1_ := Aside0.mk (blk_below (g := gb450) (o := .cells #[.int .i64 0, .int .i64 0, .int .i64 0, .int .i64 0, .int .i64 0, .int .i64 0, .int .i64 0] 67 (0, 0)) (by (with_reducible repeat (first | refine blk_drewN ?_ _ | refine blk_drew ?_ | refine blk_alloc ?_ _)); exact BK450.out) hb); have n2_ := Aside0.mk (below_step (by repeat (first | (with_reducible first | exact HB.out | apply below_alloc | apply pw_below_drewN | apply below_drew1 | refine below_set ?_ GE449.out | refine below_set ?_ GE450.out) | exact HB.out)) hb); clear BK449; clear BK450; clear HB; have BK449 := n0_; have BK450 := n1_; have HB := n2_; clear n0_ n1_ n2_; (try clear hb); (try clear hb2); (try clear hk); (try clear hi); obtain ⟨hcz24_0, hcz24_1, hcz24_2, hcz24_3, hcz24_4, hcz24_5, hcz24_6⟩ := cellsK7 BK450.out; obtain ⟨hfz24_0, hfz24_1, hfz24_2, hfz24_3, hfz24_4, hfz24_5, hfz24_6⟩ := frozK7 BK450.out))
   refine bodyPost_ret (results_cell_row rfl _ _ gb450 67 #[.int .i64 0, .int .i64 0, .int .i64 0, .int .i64 0, .int .i64 0, .int .i64 0, .int .i64 0] (0, 0) _ rfl (by (with_reducible repeat (first | refine blk_drewN ?_ _ | refine blk_drew ?_ | refine blk_alloc ?_ _)); refine blk_put (cs := #[.int .i64 0, .int .i64 0, .int .i64 0, .int .i64 0, .int .i64 0, .int .i64 0, .int .i64 0]) ?_ 6 _ rfl; (with_reducible repeat (first | refine blk_drewN ?_ _ | refine blk_drew ?_ | refine blk_alloc ?_ _)); refine blk_put (cs := #[.int .i64 0, .int .i64 0, .int .i64 0, .int .i64 0, .int .i64 0, .int .i64 0, .int .i64 0]) ?_ 5 _ rfl; (with_reducible repeat (first | refine blk_drewN ?_ _ | refine blk_drew ?_ | refine blk_alloc ?_ _)); refine blk_put (cs := #[.int .i64 0, .int .i64 0, .int .i64 0, .int .i64 0, .int .i64 0, .int .i64 0, .int .i64 0]) ?_ 4 _ rfl; (with_reducible repeat (first | refine blk_drewN ?_ _ | refine blk_drew ?_ | refine blk_alloc ?_ _)); refine blk_put (cs := #[.int .i64 0, .int .i64 0, .int .i64 0, .int .i64 0, .int .i64 0, .int .i64 0, .int .i64 0]) ?_ 3 _ rfl; (with_reducible repeat (first | refine blk_drewN ?_ _ | refine blk_drew ?_ | refine blk_alloc ?_ _)); refine blk_put (cs := #[.int .i64 0, .int .i64 0, .int .i64 0, .int .i64 0, .int .i64 0, .int .i64 0, .int .i64 0]) ?_ 2 _ rfl; (with_reducible repeat (first | refine blk_drewN ?_ _ | refine blk_drew ?_ | refine blk_alloc ?_ _)); refine blk_put (cs := #[.int .i64 0, .int .i64 0, .int .i64 0, .int .i64 0, .int .i64 0, .int .i64 0, .int .i64 0]) ?_ 1 _ rfl; (with_reducible repeat (first | refine blk_drewN ?_ _ | refine blk_drew ?_ | refine blk_alloc ?_ _)); refine blk_put (cs := #[.int .i64 0, .int .i64 0, .int .i64 0, .int .i64 0, .int .i64 0, .int .i64 0, .int .i64 0]) ?_ 0 _ rfl; (with_reducible repeat (first | refine blk_drewN ?_ _ | refine blk_drew ?_ | refine blk_alloc ?_ _)); exact BK450.out) Tryd.underlying67 rfl (by kernel_rfl)) rfl ?_
   exact ⟨by first | rfl | (simp [errW_none, errW_some] <;> rfl) | (simp [*, errW_none, errW_some] <;> rfl), by repeat (first | (with_reducible first | exact HB.out | apply below_alloc | apply pw_below_drewN | apply below_drew1 | refine below_set ?_ GE449.out | refine below_set ?_ GE450.out) | exact HB.out)⟩
 ·replace c3 := Bool.eq_false_iff.mpr c3
  subst c3
  have H1 : (some (0, 0, 0, 0, 0, 0, 0)) = some (r1, r2, r3, r4, r5, r6, r7) := by rw [if_neg (show ¬ (false = true) by decide)] at H; exact H
  clear H
  have H := H1
  clear H1
  simp only [Option.some.injEq, Prod.mk.injEq] at H
  obtain ⟨rfl, rfl, rfl, rfl, rfl, rfl, rfl⟩ := H
  go_enter Tryd.func45, Tryd.ntmps45
  go_wp2_with (first | ((with_reducible refine gate_dst (N := 1) rfl ?_); refine box_event ?hg (N := 1) ?hd (cs := #[.slice A0_0 l0_0.length c0_0, .slice A0_1 l0_1.length c0_1, .int .i64 a0_2, .int .i64 a0_3, .int .i64 a0_4, .int .i64 a0_5, .int .i64 a0_6, .int .i64 a0_7, .int .i64 a0_8, .int .i64 a0_9, .int .i64 a0_10, .int .i64 a0_11, .int .i64 a0_12]) (t := 25) ?hr ?_; (case hd => rfl); (case hg => rfl); (case hr => first | (go_simp; done) | (go_simp; rfl)); intro gb449 hg w25 hbox hb; have n0_ := Aside0.mk (below_step (by repeat (first | (with_reducible first | exact HB.out | apply below_alloc | apply pw_below_drewN | apply below_drew1) | exact HB.out)) hb); have n1_ := Aside0.mk (hbox); have n2_ := Aside0.mk ((by rw [hg]; exact (below_size (by repeat (first | (with_reducible first | exact HB.out | apply below_alloc | apply pw_below_drewN | apply below_drew1) | exact HB.out))) : w.heap.size ≤ gb449)); have n3_ := Aside0.mk ((by rw [hg]; exact (below_size (by repeat (first | (with_reducible first | exact HB.out | apply below_alloc | apply pw_below_drewN | apply below_drew1) | exact HB.out))) : w.heap.size ≤ gb449)); clear HB; have HB := n0_; have BK449 := n1_; have GW449 := n2_; have GE449 := n3_; clear n0_ n1_ n2_ n3_; clear hb hbox hg) | ((with_reducible refine gate_dst (N := 2) rfl ?_); refine box_event ?hg (N := 2) ?hd (cs := #[.int .i64 0, .int .i64 0, .int .i64 0, .int .i64 0, .int .i64 0, .int .i64 0, .int .i64 0]) (t := 67) ?hr ?_; (case hd => rfl); (case hg => rfl); (case hr => first | (go_simp; done) | (go_simp; rfl)); intro gb450 hg w26 hbox hb; have n0_ := Aside0.mk (blk_below (g := gb449) (o := .cells #[.slice A0_0 l0_0.length c0_0, .slice A0_1 l0_1.length c0_1, .int .i64 a0_2, .int .i64 a0_3, .int .i64 a0_4, .int .i64 a0_5, .int .i64 a0_6, .int .i64 a0_7, .int .i64 a0_8, .int .i64 a0_9, .int .i64 a0_10, .int .i64 a0_11, .int .i64 a0_12] 25 (0, 0)) (by (with_reducible repeat (first | refine blk_drewN ?_ _ | refine blk_drew ?_ | refine blk_alloc ?_ _)); exact BK449.out) hb); have n1_ := Aside0.mk (below_step (by repeat (first | (with_reducible first | exact HB.out | apply below_alloc | apply pw_below_drewN | apply below_drew1 | refine below_set ?_ GE449.out) | exact HB.out)) hb); have n2_ := Aside0.mk (hbox); have n3_ := Aside0.mk ((by rw [hg]; exact (below_size (by repeat (first | (with_reducible first | exact HB.out | apply below_alloc | apply pw_below_drewN | apply below_drew1 | refine below_set ?_ GE449.out) | exact HB.out))) : w.heap.size ≤ gb450)); have n4_ := Aside0.mk ((by rw [hg]; exact (below_size (by repeat (first | (with_reducible first | exact HB.out | apply below_alloc | apply pw_below_drewN | apply below_drew1 | refine below_set ?_ GE449.out) | exact HB.out))) : w.heap.size ≤ gb450)); have n5_ := Aside0.mk ((by rw [hg]; exact Nat.ne_of_lt (blk_lt (g := gb449) (o := .cells #[.slice A0_0 l0_0.length c0_0, .slice A0_1 l0_1.length c0_1, .int .i64 a0_2, .int .i64 a0_3, .int .i64 a0_4, .int .i64 a0_5, .int .i64 a0_6, .int .i64 a0_7, .int .i64 a0_8, .int .i64 a0_9, .int .i64 a0_10, .int .i64 a0_11, .int .i64 a0_12] 25 (0, 0)) (by (with_reducible repeat (first | refine blk_drewN ?_ _ | refine blk_drew ?_ | refine blk_alloc ?_ _)); exact BK449.out)) : gb449 ≠ gb450)); have n6_ := Aside0.mk ((by rw [hg]; exact Nat.ne_of_gt (blk_lt (g := gb449) (o := .cells #[.slice A0_0 l0_0.length c0_0, .slice A0_1 l0_1.length c0_1, .int .i64 a0_2, .int .i64 a0_3, .int .i64 a0_4, .int .i64 a0_5, .int .i64 a0_6, .int .i64 a0_7, .int .i64 a0_8, .int .i64 a0_9, .int .i64 a0_10, .int .i64 a0_11, .int .i64 a0_12] 25 (0, 0)) (by (with_reducible repeat (first | refine blk_drewN ?_ _ | refine blk_drew ?_ | refine blk_alloc ?_ _)); exact BK449.out)) : gb450 ≠ gb449)); clear BK449; clear HB; have BK449 := n0_; have HB := n1_; have BK450 := n2_; have GW450 := n3_; have GE450 := n4_; have NB449_450 := n5_; have NB450_449 := n6_; clear n0_ n1_ n2_ n3_ n4_ n5_ n6_; clear hb hbox hg; have hnb27 := NB449_450.out; have hnc27 := NB450_449.out; obtain ⟨hcz28_0, hcz28_1, hcz28_2, hcz28_3, hcz28_4, hcz28_5, hcz28_6, hcz28_7, hcz28_8, hcz28_9, hcz28_10, hcz28_11, hcz28_12⟩ := cellsK13 BK449.out; obtain ⟨hfz28_0, hfz28_1, hfz28_2, hfz28_3, hfz28_4, hfz28_5, hfz28_6, hfz28_7, hfz28_8, hfz28_9, hfz28_10, hfz28_11, hfz28_12⟩ := frozK13 BK449.out) | ((with_reducible refine gate_callee (f := 38) rfl ?_); refine goesL_ (some 4) rfl rfl Tryd.func38 (by kernel_rfl) rfl #[.agg #[.slice A0_0 l0_0.length c0_0, .slice A0_1 l0_1.length c0_1, .int .i64 a0_2, .int .i64 a0_3, .int .i64 a0_4, .int .i64 a0_5, .int .i64 a0_6, .int .i64 a0_7, .int .i64 a0_8, .int .i64 a0_9, .int .i64 a0_10, .int .i64 a0_11, .int .i64 a0_12]] rfl (by (try simp only [List.map_toArray, List.map_cons, List.map_nil]); first | done | rfl | (simp only [List.length_drop, List.length_take]; rfl)) ?_; (with_reducible refine (plan_Right.calls _ _ l0_0 _ _ l0_1 a0_2 a0_3 a0_4 a0_5 a0_6 a0_7 a0_8 a0_9 a0_10 a0_11 a0_12 false _ ?side1 ?side2 ?side3 ?side4 A2.out).mono ?_); (case side1 => repeat (first | exact (Kd.C_below HR0_0.out HB.out) | (with_reducible refine Kd.C_alloc ?_ _) | (with_reducible refine Kd.C_drewN ?_ _) | (with_reducible refine Kd.C_drew ?_))); (case side2 => exact HC0_0.out); (case side3 => repeat (first | exact (Kd.C_below HR0_1.out HB.out) | (with_reducible refine Kd.C_alloc ?_ _) | (with_reducible refine Kd.C_drewN ?_ _) | (with_reducible refine Kd.C_drew ?_))); (case side4 => exact HC0_1.out); rintro e w29 ⟨rfl, hb⟩; refine ⟨_, rfl, ?_⟩; have n0_ := Aside0.mk (blk_below (g := gb449) (o := .cells #[.slice A0_0 l0_0.length c0_0, .slice A0_1 l0_1.length c0_1, .int .i64 a0_2, .int .i64 a0_3, .int .i64 a0_4, .int .i64 a0_5, .int .i64 a0_6, .int .i64 a0_7, .int .i64 a0_8, .int .i64 a0_9, .int .i64 a0_10, .int .i64 a0_11, .int .i64 a0_12] 25 (0, 0)) (by (with_reducible repeat (first | refine blk_drewN ?_ _ | refine blk_drew ?_ | refine blk_alloc ?_ _)); exact BK449.out) hb); have n1_ := Aside0.mk (blk_below (g := gb450) (o := .cells #[.int .i64 0, .int .i64 0, .int .i64 0, .int .i64 0, .int .i64 0, .int .i64 0, .int .i64 0] 67 (0, 0)) (by (with_reducible repeat (first | refine blk_drewN ?_ _ | refine blk_drew ?_ | refine blk_alloc ?_ _)); exact BK450.out) hb); have n2_ := Aside0.mk (below_step (by repeat (first | (with_reducible first | exact HB.out | apply below_alloc | apply pw_below_drewN | apply below_drew1 | refine below_set ?_ GE449.out | refine below_set ?_ GE450.out) | exact HB.out)) hb); clear BK449; clear BK450; clear HB; have BK449 := n0_; have BK450 := n1_; have HB := n2_; clear n0_ n1_ n2_; (try clear hb); (try clear hb2); (try clear hk); (try clear hi); obtain ⟨hcz30_0, hcz30_1, hcz30_2, hcz30_3, hcz30_4, hcz30_5, hcz30_6⟩ := cellsK7 BK450.out; obtain ⟨hfz30_0, hfz30_1, hfz30_2, hfz30_3, hfz30_4, hfz30_5, hfz30_6⟩ := frozK7 BK450.out))
  refine bodyPost_ret (results_cell_row rfl _ _ gb450 67 #[.int .i64 0, .int .i64 0, .int .i64 0, .int .i64 0, .int .i64 0, .int .i64 0, .int .i64 0] (0, 0) _ rfl (by (with_reducible repeat (first | refine blk_drewN ?_ _ | refine blk_drew ?_ | refine blk_alloc ?_ _)); refine blk_put (cs := #[.int .i64 0, .int .i64 0, .int .i64 0, .int .i64 0, .int .i64 0, .int .i64 0, .int .i64 0]) ?_ 6 _ rfl; (with_reducible repeat (first | refine blk_drewN ?_ _ | refine blk_drew ?_ | refine blk_alloc ?_ _)); refine blk_put (cs := #[.int .i64 0, .int .i64 0, .int .i64 0, .int .i64 0, .int .i64 0, .int .i64 0, .int .i64 0]) ?_ 5 _ rfl; (with_reducible repeat (first | refine blk_drewN ?_ _ | refine blk_drew ?_ | refine blk_alloc ?_ _)); refine blk_put (cs := #[.int .i64 0, .int .i64 0, .int .i64 0, .int .i64 0, .int .i64 0, .int .i64 0, .int .i64 0]) ?_ 4 _ rfl; (with_reducible repeat (first | refine blk_drewN ?_ _ | refine blk_drew ?_ | refine blk_alloc ?_ _)); refine blk_put (cs := #[.int .i64 0, .int .i64 0, .int .i64 0, .int .i64 0, .int .i64 0, .int .i64 0, .int .i64 0]) ?_ 3 _ rfl; (with_reducible repeat (first | refine blk_drewN ?_ _ | refine blk_drew ?_ | refine blk_alloc ?_ _)); refine blk_put (cs := #[.int .i64 0, .int .i64 0, .int .i64 0, .int .i64 0, .int .i64 0, .int .i64 0, .int .i64 0]) ?_ 2 _ rfl; (with_reducible repeat (first | refine blk_drewN ?_ _ | refine blk_drew ?_ | refine blk_alloc ?_ _)); refine blk_put (cs := #[.int .i64 0, .int .i64 0, .int .i64 0, .int .i64 0, .int .i64 0, .int .i64 0, .int .i64 0]) ?_ 1 _ rfl; (with_reducible repeat (first | refine blk_drewN ?_ _ | refine blk_drew ?_ | refine blk_alloc ?_ _)); refine blk_put (cs := #[.int .i64 0, .int .i64 0, .int .i64 0, .int .i64 0, .int .i64 0, .int .i64 0, .int .i64 0]) ?_ 0 _ rfl; (with_reducible repeat (first | refine blk_drewN ?_ _ | refine blk_drew ?_ | refine blk_alloc ?_ _)); exact BK450.out) Tryd.underlying67 rfl (by kernel_rfl)) rfl ?_
  exact ⟨by first | rfl | (simp [errW_none, errW_some] <;> rfl) | (simp [*, errW_none, errW_some] <;> rfl), by repeat (first | (with_reducible first | exact HB.out | apply below_alloc | apply pw_below_drewN | apply below_drew1 | refine below_set ?_ GE449.out | refine below_set ?_ GE450.out) | exact HB.out)⟩


/-! ### bounds_Near: function 25 -/
def bounds_Near.f (k : Nat) (l0_0 : List (S60)) (l0_1 : List (S37)) (a0_2 : Int) (a0_3 : Int) (a0_4 : Int) (a0_5 : Int) (a0_6 : Int) (a0_7 : Int) (a0_8 : Int) (a0_9 : Int) (a0_10 : Int) (a0_11 : Int) (a0_12 : Int) : Option (Int) := (bounds_in.f k l0_0 l0_1 a0_2 a0_3 a0_4 a0_5 a0_6 a0_7 a0_8 a0_9 a0_10 a0_11 a0_12).bind fun bt492 => (some bt492.2.1)
theorem bounds_Near.mono : ∀ a0 a1 a2 a3 a4 a5 a6 a7 a8 a9 a10 a11 a12 k, LeO (bounds_Near.f k a0 a1 a2 a3 a4 a5 a6 a7 a8 a9 a10 a11 a12) (bounds_Near.f (k + 1) a0 a1 a2 a3 a4 a5 a6 a7 a8 a9 a10 a11 a12) := by
 intro a0 a1 a2 a3 a4 a5 a6 a7 a8 a9 a10 a11 a12 k
 unfold bounds_Near.f
 repeat' first
   | (with_reducible exact bounds_in.mono _ _ _ _ _ _ _ _ _ _ _ _ _ _)
   | (with_reducible exact LeO.refl _)
   | (with_reducible exact LeO.none _)
   | (with_reducible refine LeO.ite ?_ ?_)
   | (with_reducible refine LeO.bind ?_ (fun _ => ?_))
   | exact bounds_in.mono _ _ _ _ _ _ _ _ _ _ _ _ _ _
   | exact LeO.none _
   | refine LeO.ite ?_ ?_
   | refine LeO.bind ?_ (fun _ => ?_)
set_option maxHeartbeats 8000000 in
set_option maxRecDepth 100000 in
theorem bounds_Near.calls (k : Nat) (A0_0 : Option Addr) (c0_0 : Nat) (l0_0 : List (S60)) (A0_1 : Option Addr) (c0_1 : Nat) (l0_1 : List (S37)) (a0_2 : Int) (a0_3 : Int) (a0_4 : Int) (a0_5 : Int) (a0_6 : Int) (a0_7 : Int) (a0_8 : Int) (a0_9 : Int) (a0_10 : Int) (a0_11 : Int) (a0_12 : Int) (r : Int) (w : World) (hr0_0 : Kd.C k60 w A0_0 l0_0.length l0_0) (hc0_0 : l0_0.length ≤ c0_0) (hr0_1 : Kd.C k37 w A0_1 l0_1.length l0_1) (hc0_1 : l0_1.length ≤ c0_1) (h : bounds_Near.f k l0_0 l0_1 a0_2 a0_3 a0_4 a0_5 a0_6 a0_7 a0_8 a0_9 a0_10 a0_11 a0_12 = some r) :
  Calls Tryd.prog 25 #[.agg #[.slice A0_0 l0_0.length c0_0, .slice A0_1 l0_1.length c0_1, .int .i64 a0_2, .int .i64 a0_3, .int .i64 a0_4, .int .i64 a0_5, .int .i64 a0_6, .int .i64 a0_7, .int .i64 a0_8, .int .i64 a0_9, .int .i64 a0_10, .int .i64 a0_11, .int .i64 a0_12]] w fun e w' => e = .returned (.int .i64 r) ∧ Below w.heap.size w w' := by
 have hu25 := Tryd.underlying25
 have HR0_0 := Aside0.mk hr0_0
 have HC0_0 := Aside0.mk hc0_0
 clear hr0_0 hc0_0
 have HR0_1 := Aside0.mk hr0_1
 have HC0_1 := Aside0.mk hc0_1
 clear hr0_1 hc0_1
 have HB := Aside0.mk (Below.refl w.heap.size w)
 have H : ((bounds_in.f k l0_0 l0_1 a0_2 a0_3 a0_4 a0_5 a0_6 a0_7 a0_8 a0_9 a0_10 a0_11 a0_12).bind fun bt492 => (some bt492.2.1)) = some r := h
 clear h
 replace H := Option.bind_eq_some_iff.mp H
 obtain ⟨⟨t492, t493, t494, t495, t496, t497, t498⟩, A20, H⟩ := H
 have hfd0 : ∀ w_ : World, (Instr.field 67 (.agg #[.int .i64 t492, .int .i64 t493, .int .i64 t494, .int .i64 t495, .int .i64 t496, .int .i64 t497, .int .i64 t498]) 0).run Tryd.prog w_ = .ok (.int .i64 t492) w_ := fun _ => by kernel_rfl
 have hfd1 : ∀ w_ : World, (Instr.field 67 (.agg #[.int .i64 t492, .int .i64 t493, .int .i64 t494, .int .i64 t495, .int .i64 t496, .int .i64 t497, .int .i64 t498]) 1).run Tryd.prog w_ = .ok (.int .i64 t493) w_ := fun _ => by kernel_rfl
 have hfd5 : ∀ w_ : World, (Instr.field 67 (.agg #[.int .i64 t492, .int .i64 t493, .int .i64 t494, .int .i64 t495, .int .i64 t496, .int .i64 t497, .int .i64 t498]) 5).run Tryd.prog w_ = .ok (.int .i64 t497) w_ := fun _ => by kernel_rfl
 replace H : (some t493) = some r := H
 have A2 := Aside0.mk A20
 clear A20
 obtain rfl := Option.some.inj H
 go_enter Tryd.func25, Tryd.ntmps25
 go_wp2_with (first | ((with_reducible refine gate_dst (N := 1) rfl ?_); refine box_event ?hg (N := 1) ?hd (cs := #[.slice A0_0 l0_0.length c0_0, .slice A0_1 l0_1.length c0_1, .int .i64 a0_2, .int .i64 a0_3, .int .i64 a0_4, .int .i64 a0_5, .int .i64 a0_6, .int .i64 a0_7, .int .i64 a0_8, .int .i64 a0_9, .int .i64 a0_10, .int .i64 a0_11, .int .i64 a0_12]) (t := 25) ?hr ?_; (case hd => rfl); (case hg => rfl); (case hr => first | (go_simp; done) | (go_simp; rfl)); intro gb491 hg w3 hbox hb; have n0_ := Aside0.mk (below_step (by repeat (first | (with_reducible first | exact HB.out | apply below_alloc | apply pw_below_drewN | apply below_drew1) | exact HB.out)) hb); have n1_ := Aside0.mk (hbox); have n2_ := Aside0.mk ((by rw [hg]; exact (below_size (by repeat (first | (with_reducible first | exact HB.out | apply below_alloc | apply pw_below_drewN | apply below_drew1) | exact HB.out))) : w.heap.size ≤ gb491)); have n3_ := Aside0.mk ((by rw [hg]; exact (below_size (by repeat (first | (with_reducible first | exact HB.out | apply below_alloc | apply pw_below_drewN | apply below_drew1) | exact HB.out))) : w.heap.size ≤ gb491)); clear HB; have HB := n0_; have BK491 := n1_; have GW491 := n2_; have GE491 := n3_; clear n0_ n1_ n2_ n3_; clear hb hbox hg; obtain ⟨hcz4_0, hcz4_1, hcz4_2, hcz4_3, hcz4_4, hcz4_5, hcz4_6, hcz4_7, hcz4_8, hcz4_9, hcz4_10, hcz4_11, hcz4_12⟩ := cellsK13 BK491.out; obtain ⟨hfz4_0, hfz4_1, hfz4_2, hfz4_3, hfz4_4, hfz4_5, hfz4_6, hfz4_7, hfz4_8, hfz4_9, hfz4_10, hfz4_11, hfz4_12⟩ := frozK13 BK491.out) | ((with_reducible refine gate_callee (f := 45) rfl ?_); refine goesL_ (some 4) rfl rfl Tryd.func45 (by kernel_rfl) rfl #[.agg #[.slice A0_0 l0_0.length c0_0, .slice A0_1 l0_1.length c0_1, .int .i64 a0_2, .int .i64 a0_3, .int .i64 a0_4, .int .i64 a0_5, .int .i64 a0_6, .int .i64 a0_7, .int .i64 a0_8, .int .i64 a0_9, .int .i64 a0_10, .int .i64 a0_11, .int .i64 a0_12]] rfl (by (try simp only [List.map_toArray, List.map_cons, List.map_nil]); first | done | rfl | (simp only [List.length_drop, List.length_take]; rfl)) ?_; (with_reducible refine (bounds_in.calls k _ _ l0_0 _ _ l0_1 a0_2 a0_3 a0_4 a0_5 a0_6 a0_7 a0_8 a0_9 a0_10 a0_11 a0_12 t492 t493 t494 t495 t496 t497 t498 _ ?side1 ?side2 ?side3 ?side4 A2.out).mono ?_); (case side1 => repeat (first | exact (Kd.C_below HR0_0.out HB.out) | (with_reducible refine Kd.C_alloc ?_ _) | (with_reducible refine Kd.C_drewN ?_ _) | (with_reducible refine Kd.C_drew ?_))); (case side2 => exact HC0_0.out); (case side3 => repeat (first | exact (Kd.C_below HR0_1.out HB.out) | (with_reducible refine Kd.C_alloc ?_ _) | (with_reducible refine Kd.C_drewN ?_ _) | (with_reducible refine Kd.C_drew ?_))); (case side4 => exact HC0_1.out); rintro e w5 ⟨rfl, hb⟩; refine ⟨_, rfl, ?_⟩; have n0_ := Aside0.mk (blk_below (g := gb491) (o := .cells #[.slice A0_0 l0_0.length c0_0, .slice A0_1 l0_1.length c0_1, .int .i64 a0_2, .int .i64 a0_3, .int .i64 a0_4, .int .i64 a0_5, .int .i64 a0_6, .int .i64 a0_7, .int .i64 a0_8, .int .i64 a0_9, .int .i64 a0_10, .int .i64 a0_11, .int .i64 a0_12] 25 (0, 0)) (by (with_reducible repeat (first | refine blk_drewN ?_ _ | refine blk_drew ?_ | refine blk_alloc ?_ _)); exact BK491.out) hb); have n1_ := Aside0.mk (below_step (by repeat (first | (with_reducible first | exact HB.out | apply below_alloc | apply pw_below_drewN | apply below_drew1 | refine below_set ?_ GE491.out) | exact HB.out)) hb); clear BK491; clear HB; have BK491 := n0_; have HB := n1_; clear n0_ n1_; (try clear hb); (try clear hb2); (try clear hk); (try clear hi)))
 go_ret
 exact ⟨by first | rfl | (simp [errW_none, errW_some] <;> rfl) | (simp [*, errW_none, errW_some] <;> rfl), by repeat (first | (with_reducible first | exact HB.out | apply below_alloc | apply pw_below_drewN | apply below_drew1 | refine below_set ?_ GE491.out) | exact HB.out)⟩


/-! ### drumlineref5_Near: function 27 -/
def drumlineref5_Near.f (k : Nat) (l0_0 : List (S60)) (l0_1 : List (S37)) (a0_2 : Int) (a0_3 : Int) (a0_4 : Int) (a0_5 : Int) (a0_6 : Int) (a0_7 : Int) (a0_8 : Int) (a0_9 : Int) (a0_10 : Int) (a0_11 : Int) (a0_12 : Int) : Option (Int) := (drumlineref5_Edge.f k l0_0 l0_1 a0_2 a0_3 a0_4 a0_5 a0_6 a0_7 a0_8 a0_9 a0_10 a0_11 a0_12).bind fun t500 => (some (wrap64 (2 * t500)))
theorem drumlineref5_Near.mono : ∀ a0 a1 a2 a3 a4 a5 a6 a7 a8 a9 a10 a11 a12 k, LeO (drumlineref5_Near.f k a0 a1 a2 a3 a4 a5 a6 a7 a8 a9 a10 a11 a12) (drumlineref5_Near.f (k + 1) a0 a1 a2 a3 a4 a5 a6 a7 a8 a9 a10 a11 a12) := by
 intro a0 a1 a2 a3 a4 a5 a6 a7 a8 a9 a10 a11 a12 k
 unfold drumlineref5_Near.f
 repeat' first
   | (with_reducible exact drumlineref5_Edge.mono _ _ _ _ _ _ _ _ _ _ _ _ _ _)
   | (with_reducible exact LeO.refl _)
   | (with_reducible exact LeO.none _)
   | (with_reducible refine LeO.ite ?_ ?_)
   | (with_reducible refine LeO.bind ?_ (fun _ => ?_))
   | exact drumlineref5_Edge.mono _ _ _ _ _ _ _ _ _ _ _ _ _ _
   | exact LeO.none _
   | refine LeO.ite ?_ ?_
   | refine LeO.bind ?_ (fun _ => ?_)
set_option maxHeartbeats 8000000 in
set_option maxRecDepth 100000 in
theorem drumlineref5_Near.calls (k : Nat) (A0_0 : Option Addr) (c0_0 : Nat) (l0_0 : List (S60)) (A0_1 : Option Addr) (c0_1 : Nat) (l0_1 : List (S37)) (a0_2 : Int) (a0_3 : Int) (a0_4 : Int) (a0_5 : Int) (a0_6 : Int) (a0_7 : Int) (a0_8 : Int) (a0_9 : Int) (a0_10 : Int) (a0_11 : Int) (a0_12 : Int) (r : Int) (w : World) (hr0_0 : Kd.C k60 w A0_0 l0_0.length l0_0) (hc0_0 : l0_0.length ≤ c0_0) (hr0_1 : Kd.C k37 w A0_1 l0_1.length l0_1) (hc0_1 : l0_1.length ≤ c0_1) (h : drumlineref5_Near.f k l0_0 l0_1 a0_2 a0_3 a0_4 a0_5 a0_6 a0_7 a0_8 a0_9 a0_10 a0_11 a0_12 = some r) :
  Calls Tryd.prog 27 #[.agg #[.slice A0_0 l0_0.length c0_0, .slice A0_1 l0_1.length c0_1, .int .i64 a0_2, .int .i64 a0_3, .int .i64 a0_4, .int .i64 a0_5, .int .i64 a0_6, .int .i64 a0_7, .int .i64 a0_8, .int .i64 a0_9, .int .i64 a0_10, .int .i64 a0_11, .int .i64 a0_12]] w fun e w' => e = .returned (.int .i64 r) ∧ Below w.heap.size w w' := by
 have hu25 := Tryd.underlying25
 have HR0_0 := Aside0.mk hr0_0
 have HC0_0 := Aside0.mk hc0_0
 clear hr0_0 hc0_0
 have HR0_1 := Aside0.mk hr0_1
 have HC0_1 := Aside0.mk hc0_1
 clear hr0_1 hc0_1
 have HB := Aside0.mk (Below.refl w.heap.size w)
 have H : ((drumlineref5_Edge.f k l0_0 l0_1 a0_2 a0_3 a0_4 a0_5 a0_6 a0_7 a0_8 a0_9 a0_10 a0_11 a0_12).bind fun t500 => (some (wrap64 (2 * t500)))) = some r := h
 clear h
 replace H := Option.bind_eq_some_iff.mp H
 obtain ⟨t500, A20, H⟩ := H
 replace H : (some (wrap64 (2 * t500))) = some r := H
 have A2 := Aside0.mk A20
 clear A20
 obtain rfl := Option.some.inj H
 go_enter Tryd.func27, Tryd.ntmps27
 go_wp2_with (first | ((with_reducible refine gate_dst (N := 1) rfl ?_); refine box_event ?hg (N := 1) ?hd (cs := #[.slice A0_0 l0_0.length c0_0, .slice A0_1 l0_1.length c0_1, .int .i64 a0_2, .int .i64 a0_3, .int .i64 a0_4, .int .i64 a0_5, .int .i64 a0_6, .int .i64 a0_7, .int .i64 a0_8, .int .i64 a0_9, .int .i64 a0_10, .int .i64 a0_11, .int .i64 a0_12]) (t := 25) ?hr ?_; (case hd => rfl); (case hg => rfl); (case hr => first | (go_simp; done) | (go_simp; rfl)); intro gb499 hg w3 hbox hb; have n0_ := Aside0.mk (below_step (by repeat (first | (with_reducible first | exact HB.out | apply below_alloc | apply pw_below_drewN | apply below_drew1) | exact HB.out)) hb); have n1_ := Aside0.mk (hbox); have n2_ := Aside0.mk ((by rw [hg]; exact (below_size (by repeat (first | (with_reducible first | exact HB.out | apply below_alloc | apply pw_below_drewN | apply below_drew1) | exact HB.out))) : w.heap.size ≤ gb499)); have n3_ := Aside0.mk ((by rw [hg]; exact (below_size (by repeat (first | (with_reducible first | exact HB.out | apply below_alloc | apply pw_below_drewN | apply below_drew1) | exact HB.out))) : w.heap.size ≤ gb499)); clear HB; have HB := n0_; have BK499 := n1_; have GW499 := n2_; have GE499 := n3_; clear n0_ n1_ n2_ n3_; clear hb hbox hg; obtain ⟨hcz4_0, hcz4_1, hcz4_2, hcz4_3, hcz4_4, hcz4_5, hcz4_6, hcz4_7, hcz4_8, hcz4_9, hcz4_10, hcz4_11, hcz4_12⟩ := cellsK13 BK499.out; obtain ⟨hfz4_0, hfz4_1, hfz4_2, hfz4_3, hfz4_4, hfz4_5, hfz4_6, hfz4_7, hfz4_8, hfz4_9, hfz4_10, hfz4_11, hfz4_12⟩ := frozK13 BK499.out) | ((with_reducible refine gate_callee (f := 41) rfl ?_); refine goesL_ (some 4) rfl rfl Tryd.func41 (by kernel_rfl) rfl #[.agg #[.slice A0_0 l0_0.length c0_0, .slice A0_1 l0_1.length c0_1, .int .i64 a0_2, .int .i64 a0_3, .int .i64 a0_4, .int .i64 a0_5, .int .i64 a0_6, .int .i64 a0_7, .int .i64 a0_8, .int .i64 a0_9, .int .i64 a0_10, .int .i64 a0_11, .int .i64 a0_12]] rfl (by (try simp only [List.map_toArray, List.map_cons, List.map_nil]); first | done | rfl | (simp only [List.length_drop, List.length_take]; rfl)) ?_; (with_reducible refine (drumlineref5_Edge.calls k _ _ l0_0 _ _ l0_1 a0_2 a0_3 a0_4 a0_5 a0_6 a0_7 a0_8 a0_9 a0_10 a0_11 a0_12 t500 _ ?side1 ?side2 ?side3 ?side4 A2.out).mono ?_); (case side1 => repeat (first | exact (Kd.C_below HR0_0.out HB.out) | (with_reducible refine Kd.C_alloc ?_ _) | (with_reducible refine Kd.C_drewN ?_ _) | (with_reducible refine Kd.C_drew ?_))); (case side2 => exact HC0_0.out); (case side3 => repeat (first | exact (Kd.C_below HR0_1.out HB.out) | (with_reducible refine Kd.C_alloc ?_ _) | (with_reducible refine Kd.C_drewN ?_ _) | (with_reducible refine Kd.C_drew ?_))); (case side4 => exact HC0_1.out); rintro e w5 ⟨rfl, hb⟩; refine ⟨_, rfl, ?_⟩; have n0_ := Aside0.mk (blk_below (g := gb499) (o := .cells #[.slice A0_0 l0_0.length c0_0, .slice A0_1 l0_1.length c0_1, .int .i64 a0_2, .int .i64 a0_3, .int .i64 a0_4, .int .i64 a0_5, .int .i64 a0_6, .int .i64 a0_7, .int .i64 a0_8, .int .i64 a0_9, .int .i64 a0_10, .int .i64 a0_11, .int .i64 a0_12] 25 (0, 0)) (by (with_reducible repeat (first | refine blk_drewN ?_ _ | refine blk_drew ?_ | refine blk_alloc ?_ _)); exact BK499.out) hb); have n1_ := Aside0.mk (below_step (by repeat (first | (with_reducible first | exact HB.out | apply below_alloc | apply pw_below_drewN | apply below_drew1 | refine below_set ?_ GE499.out) | exact HB.out)) hb); clear BK499; clear HB; have BK499 := n0_; have HB := n1_; clear n0_ n1_; (try clear hb); (try clear hb2); (try clear hk); (try clear hi)))
 go_ret
 exact ⟨by first | rfl | (simp [errW_none, errW_some] <;> rfl) | (simp [*, errW_none, errW_some] <;> rfl), by repeat (first | (with_reducible first | exact HB.out | apply below_alloc | apply pw_below_drewN | apply below_drew1 | refine below_set ?_ GE499.out) | exact HB.out)⟩


/-! ### clock_Reading: function 28 -/
def clock_Reading.f (a0 : Int) (a1 : Int) (a2 : Int) (a3 : Int) (a4 : Int) : Option (Int × Bool) := (ticks_Time.f a0).bind fun t501 => (if t501 = true then ((ticks_Time.f a4).bind fun t502 => (if t502 = true then ((ticks_Time.f (wrap64 (a4 - a0))).bind fun t503 => (if t503 = true then (if a1 < 0 then (some (0, false)) else (if a1 > 1099511627776 then (some (0, false)) else (if a2 < 1 then (some (0, false)) else (if a2 > 1000000 then (some (0, false)) else (if a3 < (-1000000) then (some (0, false)) else (if a3 > 1000000 then (some (0, false)) else ((clock_Local.f (wrap64 (a4 - a0)) a3).bind fun t504 => (some (wrap64 ((wrap64 (a1 * a2)) + t504), true))))))))) else (some (0, false)))) else (some (0, false)))) else (some (0, false)))
set_option maxHeartbeats 8000000 in
set_option maxRecDepth 100000 in
theorem clock_Reading.calls (a0 : Int) (a1 : Int) (a2 : Int) (a3 : Int) (a4 : Int) (r1 : Int) (r2 : Bool) (w : World) (h : clock_Reading.f a0 a1 a2 a3 a4 = some (r1, r2)) :
  Calls Tryd.prog 28 #[.int .i64 a0, .int .i64 a1, .int .i64 a2, .int .i64 a3, .int .i64 a4] w fun e w' => e = .returned (.tuple #[.int .i64 r1, .bool r2]) ∧ Drawn0 w w' := by
 have H : ((ticks_Time.f a0).bind fun t501 => (if t501 = true then ((ticks_Time.f a4).bind fun t502 => (if t502 = true then ((ticks_Time.f (wrap64 (a4 - a0))).bind fun t503 => (if t503 = true then (if a1 < 0 then (some (0, false)) else (if a1 > 1099511627776 then (some (0, false)) else (if a2 < 1 then (some (0, false)) else (if a2 > 1000000 then (some (0, false)) else (if a3 < (-1000000) then (some (0, false)) else (if a3 > 1000000 then (some (0, false)) else ((clock_Local.f (wrap64 (a4 - a0)) a3).bind fun t504 => (some (wrap64 ((wrap64 (a1 * a2)) + t504), true))))))))) else (some (0, false)))) else (some (0, false)))) else (some (0, false)))) = some (r1, r2) := h
 clear h
 replace H := Option.bind_eq_some_iff.mp H
 obtain ⟨t501, A60, H⟩ := H
 replace H : (if t501 = true then ((ticks_Time.f a4).bind fun t502 => (if t502 = true then ((ticks_Time.f (wrap64 (a4 - a0))).bind fun t503 => (if t503 = true then (if a1 < 0 then (some (0, false)) else (if a1 > 1099511627776 then (some (0, false)) else (if a2 < 1 then (some (0, false)) else (if a2 > 1000000 then (some (0, false)) else (if a3 < (-1000000) then (some (0, false)) else (if a3 > 1000000 then (some (0, false)) else ((clock_Local.f (wrap64 (a4 - a0)) a3).bind fun t504 => (some (wrap64 ((wrap64 (a1 * a2)) + t504), true))))))))) else (some (0, false)))) else (some (0, false)))) else (some (0, false))) = some (r1, r2) := H
 have A6 := Aside0.mk A60
 clear A60
 by_cases c7 : t501 = true
 ·subst c7
  have H1 : ((ticks_Time.f a4).bind fun t502 => (if t502 = true then ((ticks_Time.f (wrap64 (a4 - a0))).bind fun t503 => (if t503 = true then (if a1 < 0 then (some (0, false)) else (if a1 > 1099511627776 then (some (0, false)) else (if a2 < 1 then (some (0, false)) else (if a2 > 1000000 then (some (0, false)) else (if a3 < (-1000000) then (some (0, false)) else (if a3 > 1000000 then (some (0, false)) else ((clock_Local.f (wrap64 (a4 - a0)) a3).bind fun t504 => (some (wrap64 ((wrap64 (a1 * a2)) + t504), true))))))))) else (some (0, false)))) else (some (0, false)))) = some (r1, r2) := by rw [if_pos rfl] at H; exact H
  clear H
  have H := H1
  clear H1
  replace H := Option.bind_eq_some_iff.mp H
  obtain ⟨t502, A80, H⟩ := H
  replace H : (if t502 = true then ((ticks_Time.f (wrap64 (a4 - a0))).bind fun t503 => (if t503 = true then (if a1 < 0 then (some (0, false)) else (if a1 > 1099511627776 then (some (0, false)) else (if a2 < 1 then (some (0, false)) else (if a2 > 1000000 then (some (0, false)) else (if a3 < (-1000000) then (some (0, false)) else (if a3 > 1000000 then (some (0, false)) else ((clock_Local.f (wrap64 (a4 - a0)) a3).bind fun t504 => (some (wrap64 ((wrap64 (a1 * a2)) + t504), true))))))))) else (some (0, false)))) else (some (0, false))) = some (r1, r2) := H
  have A8 := Aside0.mk A80
  clear A80
  by_cases c9 : t502 = true
  ·subst c9
   have H1 : ((ticks_Time.f (wrap64 (a4 - a0))).bind fun t503 => (if t503 = true then (if a1 < 0 then (some (0, false)) else (if a1 > 1099511627776 then (some (0, false)) else (if a2 < 1 then (some (0, false)) else (if a2 > 1000000 then (some (0, false)) else (if a3 < (-1000000) then (some (0, false)) else (if a3 > 1000000 then (some (0, false)) else ((clock_Local.f (wrap64 (a4 - a0)) a3).bind fun t504 => (some (wrap64 ((wrap64 (a1 * a2)) + t504), true))))))))) else (some (0, false)))) = some (r1, r2) := by rw [if_pos rfl] at H; exact H
   clear H
   have H := H1
   clear H1
   replace H := Option.bind_eq_some_iff.mp H
   obtain ⟨t503, A100, H⟩ := H
   replace H : (if t503 = true then (if a1 < 0 then (some (0, false)) else (if a1 > 1099511627776 then (some (0, false)) else (if a2 < 1 then (some (0, false)) else (if a2 > 1000000 then (some (0, false)) else (if a3 < (-1000000) then (some (0, false)) else (if a3 > 1000000 then (some (0, false)) else ((clock_Local.f (wrap64 (a4 - a0)) a3).bind fun t504 => (some (wrap64 ((wrap64 (a1 * a2)) + t504), true))))))))) else (some (0, false))) = some (r1, r2) := H
   have A10 := Aside0.mk A100
   clear A100
   by_cases c11 : t503 = true
   ·subst c11
    have H1 : (if a1 < 0 then (some (0, false)) else (if a1 > 1099511627776 then (some (0, false)) else (if a2 < 1 then (some (0, false)) else (if a2 > 1000000 then (some (0, false)) else (if a3 < (-1000000) then (some (0, false)) else (if a3 > 1000000 then (some (0, false)) else ((clock_Local.f (wrap64 (a4 - a0)) a3).bind fun t504 => (some (wrap64 ((wrap64 (a1 * a2)) + t504), true))))))))) = some (r1, r2) := by rw [if_pos rfl] at H; exact H
    clear H
    have H := H1
    clear H1
    by_cases c12 : a1 < 0
    ·rw [if_pos c12] at H
     have c12b0 : decide (a1 < 0) = true := decide_eq_true c12
     clear c12
     simp only [Option.some.injEq, Prod.mk.injEq] at H
     obtain ⟨rfl, rfl⟩ := H
     go_enter Tryd.func28, Tryd.ntmps28
     go_wp2_with (first | ((with_reducible refine gate_callee (f := 47) rfl ?_); refine goesL_ (some 13) rfl rfl Tryd.func47 (by kernel_rfl) rfl #[.int .i64 a0] rfl (by (try simp only [List.map_toArray, List.map_cons, List.map_nil]); first | done | rfl | (simp only [List.length_drop, List.length_take]; rfl)) ?_; (with_reducible refine (ticks_Time.calls a0 true _ A6.out).mono ?_); rintro e w' ⟨rfl, ⟨nd, rfl⟩⟩; refine ⟨_, rfl, ?_⟩) | (go_at_call 47; (with_reducible refine (ticks_Time.calls a4 true _ A8.out).mono ?_); rintro e w' ⟨rfl, ⟨nd, rfl⟩⟩) | (go_at_call 47; (with_reducible refine (ticks_Time.calls (wrap64 (a4 - a0)) true _ A10.out).mono ?_); rintro e w' ⟨rfl, ⟨nd, rfl⟩⟩))
     go_ret2
     exact ⟨by first | rfl | (simp; done) | (simp [*]; done), by repeat (first | exact Drawn0.refl _ | apply Drawn0.step)⟩
    ·rw [if_neg c12] at H
     have c12b0 : decide (a1 < 0) = false := decide_eq_false c12
     clear c12
     by_cases c13 : a1 > 1099511627776
     ·rw [if_pos c13] at H
      have c13b0 : decide (1099511627776 < a1) = true := decide_eq_true c13
      clear c13
      simp only [Option.some.injEq, Prod.mk.injEq] at H
      obtain ⟨rfl, rfl⟩ := H
      go_enter Tryd.func28, Tryd.ntmps28
      go_wp2_with (first | ((with_reducible refine gate_callee (f := 47) rfl ?_); refine goesL_ (some 13) rfl rfl Tryd.func47 (by kernel_rfl) rfl #[.int .i64 a0] rfl (by (try simp only [List.map_toArray, List.map_cons, List.map_nil]); first | done | rfl | (simp only [List.length_drop, List.length_take]; rfl)) ?_; (with_reducible refine (ticks_Time.calls a0 true _ A6.out).mono ?_); rintro e w' ⟨rfl, ⟨nd, rfl⟩⟩; refine ⟨_, rfl, ?_⟩) | (go_at_call 47; (with_reducible refine (ticks_Time.calls a4 true _ A8.out).mono ?_); rintro e w' ⟨rfl, ⟨nd, rfl⟩⟩) | (go_at_call 47; (with_reducible refine (ticks_Time.calls (wrap64 (a4 - a0)) true _ A10.out).mono ?_); rintro e w' ⟨rfl, ⟨nd, rfl⟩⟩))
      go_ret2
      exact ⟨by first | rfl | (simp; done) | (simp [*]; done), by repeat (first | exact Drawn0.refl _ | apply Drawn0.step)⟩
     ·rw [if_neg c13] at H
      have c13b0 : decide (1099511627776 < a1) = false := decide_eq_false c13
      clear c13
      by_cases c14 : a2 < 1
      ·rw [if_pos c14] at H
       have c14b0 : decide (a2 < 1) = true := decide_eq_true c14
       clear c14
       simp only [Option.some.injEq, Prod.mk.injEq] at H
       obtain ⟨rfl, rfl⟩ := H
       go_enter Tryd.func28, Tryd.ntmps28
       go_wp2_with (first | ((with_reducible refine gate_callee (f := 47) rfl ?_); refine goesL_ (some 13) rfl rfl Tryd.func47 (by kernel_rfl) rfl #[.int .i64 a0] rfl (by (try simp only [List.map_toArray, List.map_cons, List.map_nil]); first | done | rfl | (simp only [List.length_drop, List.length_take]; rfl)) ?_; (with_reducible refine (ticks_Time.calls a0 true _ A6.out).mono ?_); rintro e w' ⟨rfl, ⟨nd, rfl⟩⟩; refine ⟨_, rfl, ?_⟩) | (go_at_call 47; (with_reducible refine (ticks_Time.calls a4 true _ A8.out).mono ?_); rintro e w' ⟨rfl, ⟨nd, rfl⟩⟩) | (go_at_call 47; (with_reducible refine (ticks_Time.calls (wrap64 (a4 - a0)) true _ A10.out).mono ?_); rintro e w' ⟨rfl, ⟨nd, rfl⟩⟩))
       go_ret2
       exact ⟨by first | rfl | (simp; done) | (simp [*]; done), by repeat (first | exact Drawn0.refl _ | apply Drawn0.step)⟩
      ·rw [if_neg c14] at H
       have c14b0 : decide (a2 < 1) = false := decide_eq_false c14
       clear c14
       by_cases c15 : a2 > 1000000
       ·rw [if_pos c15] at H
        have c15b0 : decide (1000000 < a2) = true := decide_eq_true c15
        clear c15
        simp only [Option.some.injEq, Prod.mk.injEq] at H
        obtain ⟨rfl, rfl⟩ := H
        go_enter Tryd.func28, Tryd.ntmps28
        go_wp2_with (first | ((with_reducible refine gate_callee (f := 47) rfl ?_); refine goesL_ (some 13) rfl rfl Tryd.func47 (by kernel_rfl) rfl #[.int .i64 a0] rfl (by (try simp only [List.map_toArray, List.map_cons, List.map_nil]); first | done | rfl | (simp only [List.length_drop, List.length_take]; rfl)) ?_; (with_reducible refine (ticks_Time.calls a0 true _ A6.out).mono ?_); rintro e w' ⟨rfl, ⟨nd, rfl⟩⟩; refine ⟨_, rfl, ?_⟩) | (go_at_call 47; (with_reducible refine (ticks_Time.calls a4 true _ A8.out).mono ?_); rintro e w' ⟨rfl, ⟨nd, rfl⟩⟩) | (go_at_call 47; (with_reducible refine (ticks_Time.calls (wrap64 (a4 - a0)) true _ A10.out).mono ?_); rintro e w' ⟨rfl, ⟨nd, rfl⟩⟩))
        go_ret2
        exact ⟨by first | rfl | (simp; done) | (simp [*]; done), by repeat (first | exact Drawn0.refl _ | apply Drawn0.step)⟩
       ·rw [if_neg c15] at H
        have c15b0 : decide (1000000 < a2) = false := decide_eq_false c15
        clear c15
        by_cases c16 : a3 < (-1000000)
        ·rw [if_pos c16] at H
         have c16b0 : decide (a3 < (-1000000)) = true := decide_eq_true c16
         clear c16
         simp only [Option.some.injEq, Prod.mk.injEq] at H
         obtain ⟨rfl, rfl⟩ := H
         go_enter Tryd.func28, Tryd.ntmps28
         go_wp2_with (first | ((with_reducible refine gate_callee (f := 47) rfl ?_); refine goesL_ (some 13) rfl rfl Tryd.func47 (by kernel_rfl) rfl #[.int .i64 a0] rfl (by (try simp only [List.map_toArray, List.map_cons, List.map_nil]); first | done | rfl | (simp only [List.length_drop, List.length_take]; rfl)) ?_; (with_reducible refine (ticks_Time.calls a0 true _ A6.out).mono ?_); rintro e w' ⟨rfl, ⟨nd, rfl⟩⟩; refine ⟨_, rfl, ?_⟩) | (go_at_call 47; (with_reducible refine (ticks_Time.calls a4 true _ A8.out).mono ?_); rintro e w' ⟨rfl, ⟨nd, rfl⟩⟩) | (go_at_call 47; (with_reducible refine (ticks_Time.calls (wrap64 (a4 - a0)) true _ A10.out).mono ?_); rintro e w' ⟨rfl, ⟨nd, rfl⟩⟩))
         go_ret2
         exact ⟨by first | rfl | (simp; done) | (simp [*]; done), by repeat (first | exact Drawn0.refl _ | apply Drawn0.step)⟩
        ·rw [if_neg c16] at H
         have c16b0 : decide (a3 < (-1000000)) = false := decide_eq_false c16
         clear c16
         by_cases c17 : a3 > 1000000
         ·rw [if_pos c17] at H
          have c17b0 : decide (1000000 < a3) = true := decide_eq_true c17
          clear c17
          simp only [Option.some.injEq, Prod.mk.injEq] at H
          obtain ⟨rfl, rfl⟩ := H
          go_enter Tryd.func28, Tryd.ntmps28
          go_wp2_with (first | ((with_reducible refine gate_callee (f := 47) rfl ?_); refine goesL_ (some 13) rfl rfl Tryd.func47 (by kernel_rfl) rfl #[.int .i64 a0] rfl (by (try simp only [List.map_toArray, List.map_cons, List.map_nil]); first | done | rfl | (simp only [List.length_drop, List.length_take]; rfl)) ?_; (with_reducible refine (ticks_Time.calls a0 true _ A6.out).mono ?_); rintro e w' ⟨rfl, ⟨nd, rfl⟩⟩; refine ⟨_, rfl, ?_⟩) | (go_at_call 47; (with_reducible refine (ticks_Time.calls a4 true _ A8.out).mono ?_); rintro e w' ⟨rfl, ⟨nd, rfl⟩⟩) | (go_at_call 47; (with_reducible refine (ticks_Time.calls (wrap64 (a4 - a0)) true _ A10.out).mono ?_); rintro e w' ⟨rfl, ⟨nd, rfl⟩⟩))
          go_ret2
          exact ⟨by first | rfl | (simp; done) | (simp [*]; done), by repeat (first | exact Drawn0.refl _ | apply Drawn0.step)⟩
         ·rw [if_neg c17] at H
          have c17b0 : decide (1000000 < a3) = false := decide_eq_false c17
          clear c17
          replace H := Option.bind_eq_some_iff.mp H
          obtain ⟨t504, A180, H⟩ := H
          replace H : (some (wrap64 ((wrap64 (a1 * a2)) + t504), true)) = some (r1, r2) := H
          have A18 := Aside0.mk A180
          clear A180
          simp only [Option.some.injEq, Prod.mk.injEq] at H
          obtain ⟨rfl, rfl⟩ := H
          go_enter Tryd.func28, Tryd.ntmps28
          go_wp2_with (first | ((with_reducible refine gate_callee (f := 47) rfl ?_); refine goesL_ (some 13) rfl rfl Tryd.func47 (by kernel_rfl) rfl #[.int .i64 a0] rfl (by (try simp only [List.map_toArray, List.map_cons, List.map_nil]); first | done | rfl | (simp only [List.length_drop, List.length_take]; rfl)) ?_; (with_reducible refine (ticks_Time.calls a0 true _ A6.out).mono ?_); rintro e w' ⟨rfl, ⟨nd, rfl⟩⟩; refine ⟨_, rfl, ?_⟩) | (go_at_call 47; (with_reducible refine (ticks_Time.calls a4 true _ A8.out).mono ?_); rintro e w' ⟨rfl, ⟨nd, rfl⟩⟩) | (go_at_call 47; (with_reducible refine (ticks_Time.calls (wrap64 (a4 - a0)) true _ A10.out).mono ?_); rintro e w' ⟨rfl, ⟨nd, rfl⟩⟩) | ((with_reducible refine gate_callee (f := 43) rfl ?_); refine goesL_ (some 58) rfl rfl Tryd.func43 (by kernel_rfl) rfl #[.int .i64 (wrap64 (a4 - a0)), .int .i64 a3] rfl (by (try simp only [List.map_toArray, List.map_cons, List.map_nil]); first | done | rfl | (simp only [List.length_drop, List.length_take]; rfl)) ?_; (with_reducible refine (clock_Local.calls (wrap64 (a4 - a0)) a3 t504 _ A18.out).mono ?_); rintro e w' ⟨rfl, ⟨nd, rfl⟩⟩; refine ⟨_, rfl, ?_⟩))
          go_ret2
          exact ⟨by first | rfl | (simp; done) | (simp [*]; done), by repeat (first | exact Drawn0.refl _ | apply Drawn0.step)⟩
   ·replace c11 := Bool.eq_false_iff.mpr c11
    subst c11
    have H1 : (some (0, false)) = some (r1, r2) := by rw [if_neg (show ¬ (false = true) by decide)] at H; exact H
    clear H
    have H := H1
    clear H1
    simp only [Option.some.injEq, Prod.mk.injEq] at H
    obtain ⟨rfl, rfl⟩ := H
    go_enter Tryd.func28, Tryd.ntmps28
    go_wp2_with (first | ((with_reducible refine gate_callee (f := 47) rfl ?_); refine goesL_ (some 13) rfl rfl Tryd.func47 (by kernel_rfl) rfl #[.int .i64 a0] rfl (by (try simp only [List.map_toArray, List.map_cons, List.map_nil]); first | done | rfl | (simp only [List.length_drop, List.length_take]; rfl)) ?_; (with_reducible refine (ticks_Time.calls a0 true _ A6.out).mono ?_); rintro e w' ⟨rfl, ⟨nd, rfl⟩⟩; refine ⟨_, rfl, ?_⟩) | (go_at_call 47; (with_reducible refine (ticks_Time.calls a4 true _ A8.out).mono ?_); rintro e w' ⟨rfl, ⟨nd, rfl⟩⟩) | (go_at_call 47; (with_reducible refine (ticks_Time.calls (wrap64 (a4 - a0)) false _ A10.out).mono ?_); rintro e w' ⟨rfl, ⟨nd, rfl⟩⟩))
    go_ret2
    exact ⟨by first | rfl | (simp; done) | (simp [*]; done), by repeat (first | exact Drawn0.refl _ | apply Drawn0.step)⟩
  ·replace c9 := Bool.eq_false_iff.mpr c9
   subst c9
   have H1 : (some (0, false)) = some (r1, r2) := by rw [if_neg (show ¬ (false = true) by decide)] at H; exact H
   clear H
   have H := H1
   clear H1
   simp only [Option.some.injEq, Prod.mk.injEq] at H
   obtain ⟨rfl, rfl⟩ := H
   go_enter Tryd.func28, Tryd.ntmps28
   go_wp2_with (first | ((with_reducible refine gate_callee (f := 47) rfl ?_); refine goesL_ (some 13) rfl rfl Tryd.func47 (by kernel_rfl) rfl #[.int .i64 a0] rfl (by (try simp only [List.map_toArray, List.map_cons, List.map_nil]); first | done | rfl | (simp only [List.length_drop, List.length_take]; rfl)) ?_; (with_reducible refine (ticks_Time.calls a0 true _ A6.out).mono ?_); rintro e w' ⟨rfl, ⟨nd, rfl⟩⟩; refine ⟨_, rfl, ?_⟩) | (go_at_call 47; (with_reducible refine (ticks_Time.calls a4 false _ A8.out).mono ?_); rintro e w' ⟨rfl, ⟨nd, rfl⟩⟩))
   go_ret2
   exact ⟨by first | rfl | (simp; done) | (simp [*]; done), by repeat (first | exact Drawn0.refl _ | apply Drawn0.step)⟩
 ·replace c7 := Bool.eq_false_iff.mpr c7
  subst c7
  have H1 : (some (0, false)) = some (r1, r2) := by rw [if_neg (show ¬ (false = true) by decide)] at H; exact H
  clear H
  have H := H1
  clear H1
  simp only [Option.some.injEq, Prod.mk.injEq] at H
  obtain ⟨rfl, rfl⟩ := H
  go_enter Tryd.func28, Tryd.ntmps28
  go_wp2_with (first | ((with_reducible refine gate_callee (f := 47) rfl ?_); refine goesL_ (some 13) rfl rfl Tryd.func47 (by kernel_rfl) rfl #[.int .i64 a0] rfl (by (try simp only [List.map_toArray, List.map_cons, List.map_nil]); first | done | rfl | (simp only [List.length_drop, List.length_take]; rfl)) ?_; (with_reducible refine (ticks_Time.calls a0 false _ A6.out).mono ?_); rintro e w' ⟨rfl, ⟨nd, rfl⟩⟩; refine ⟨_, rfl, ?_⟩))
  go_ret2
  exact ⟨by first | rfl | (simp; done) | (simp [*]; done), by repeat (first | exact Drawn0.refl _ | apply Drawn0.step)⟩


/-! ### bounds_Tick: function 29 -/
def bounds_Tick.f (k : Nat) (l0_0 : List (S60)) (l0_1 : List (S37)) (a0_2 : Int) (a0_3 : Int) (a0_4 : Int) (a0_5 : Int) (a0_6 : Int) (a0_7 : Int) (a0_8 : Int) (a0_9 : Int) (a0_10 : Int) (a0_11 : Int) (a0_12 : Int) : Option (Int) := (bounds_in.f k l0_0 l0_1 a0_2 a0_3 a0_4 a0_5 a0_6 a0_7 a0_8 a0_9 a0_10 a0_11 a0_12).bind fun bt506 => (some bt506.2.2.2.2.2.1)
theorem bounds_Tick.mono : ∀ a0 a1 a2 a3 a4 a5 a6 a7 a8 a9 a10 a11 a12 k, LeO (bounds_Tick.f k a0 a1 a2 a3 a4 a5 a6 a7 a8 a9 a10 a11 a12) (bounds_Tick.f (k + 1) a0 a1 a2 a3 a4 a5 a6 a7 a8 a9 a10 a11 a12) := by
 intro a0 a1 a2 a3 a4 a5 a6 a7 a8 a9 a10 a11 a12 k
 unfold bounds_Tick.f
 repeat' first
   | (with_reducible exact bounds_in.mono _ _ _ _ _ _ _ _ _ _ _ _ _ _)
   | (with_reducible exact LeO.refl _)
   | (with_reducible exact LeO.none _)
   | (with_reducible refine LeO.ite ?_ ?_)
   | (with_reducible refine LeO.bind ?_ (fun _ => ?_))
   | exact bounds_in.mono _ _ _ _ _ _ _ _ _ _ _ _ _ _
   | exact LeO.none _
   | refine LeO.ite ?_ ?_
   | refine LeO.bind ?_ (fun _ => ?_)
set_option maxHeartbeats 8000000 in
set_option maxRecDepth 100000 in
theorem bounds_Tick.calls (k : Nat) (A0_0 : Option Addr) (c0_0 : Nat) (l0_0 : List (S60)) (A0_1 : Option Addr) (c0_1 : Nat) (l0_1 : List (S37)) (a0_2 : Int) (a0_3 : Int) (a0_4 : Int) (a0_5 : Int) (a0_6 : Int) (a0_7 : Int) (a0_8 : Int) (a0_9 : Int) (a0_10 : Int) (a0_11 : Int) (a0_12 : Int) (r : Int) (w : World) (hr0_0 : Kd.C k60 w A0_0 l0_0.length l0_0) (hc0_0 : l0_0.length ≤ c0_0) (hr0_1 : Kd.C k37 w A0_1 l0_1.length l0_1) (hc0_1 : l0_1.length ≤ c0_1) (h : bounds_Tick.f k l0_0 l0_1 a0_2 a0_3 a0_4 a0_5 a0_6 a0_7 a0_8 a0_9 a0_10 a0_11 a0_12 = some r) :
  Calls Tryd.prog 29 #[.agg #[.slice A0_0 l0_0.length c0_0, .slice A0_1 l0_1.length c0_1, .int .i64 a0_2, .int .i64 a0_3, .int .i64 a0_4, .int .i64 a0_5, .int .i64 a0_6, .int .i64 a0_7, .int .i64 a0_8, .int .i64 a0_9, .int .i64 a0_10, .int .i64 a0_11, .int .i64 a0_12]] w fun e w' => e = .returned (.int .i64 r) ∧ Below w.heap.size w w' := by
 have hu25 := Tryd.underlying25
 have HR0_0 := Aside0.mk hr0_0
 have HC0_0 := Aside0.mk hc0_0
 clear hr0_0 hc0_0
 have HR0_1 := Aside0.mk hr0_1
 have HC0_1 := Aside0.mk hc0_1
 clear hr0_1 hc0_1
 have HB := Aside0.mk (Below.refl w.heap.size w)
 have H : ((bounds_in.f k l0_0 l0_1 a0_2 a0_3 a0_4 a0_5 a0_6 a0_7 a0_8 a0_9 a0_10 a0_11 a0_12).bind fun bt506 => (some bt506.2.2.2.2.2.1)) = some r := h
 clear h
 replace H := Option.bind_eq_some_iff.mp H
 obtain ⟨⟨t506, t507, t508, t509, t510, t511, t512⟩, A20, H⟩ := H
 have hfd0 : ∀ w_ : World, (Instr.field 67 (.agg #[.int .i64 t506, .int .i64 t507, .int .i64 t508, .int .i64 t509, .int .i64 t510, .int .i64 t511, .int .i64 t512]) 0).run Tryd.prog w_ = .ok (.int .i64 t506) w_ := fun _ => by kernel_rfl
 have hfd1 : ∀ w_ : World, (Instr.field 67 (.agg #[.int .i64 t506, .int .i64 t507, .int .i64 t508, .int .i64 t509, .int .i64 t510, .int .i64 t511, .int .i64 t512]) 1).run Tryd.prog w_ = .ok (.int .i64 t507) w_ := fun _ => by kernel_rfl
 have hfd5 : ∀ w_ : World, (Instr.field 67 (.agg #[.int .i64 t506, .int .i64 t507, .int .i64 t508, .int .i64 t509, .int .i64 t510, .int .i64 t511, .int .i64 t512]) 5).run Tryd.prog w_ = .ok (.int .i64 t511) w_ := fun _ => by kernel_rfl
 replace H : (some t511) = some r := H
 have A2 := Aside0.mk A20
 clear A20
 obtain rfl := Option.some.inj H
 go_enter Tryd.func29, Tryd.ntmps29
 go_wp2_with (first | ((with_reducible refine gate_dst (N := 1) rfl ?_); refine box_event ?hg (N := 1) ?hd (cs := #[.slice A0_0 l0_0.length c0_0, .slice A0_1 l0_1.length c0_1, .int .i64 a0_2, .int .i64 a0_3, .int .i64 a0_4, .int .i64 a0_5, .int .i64 a0_6, .int .i64 a0_7, .int .i64 a0_8, .int .i64 a0_9, .int .i64 a0_10, .int .i64 a0_11, .int .i64 a0_12]) (t := 25) ?hr ?_; (case hd => rfl); (case hg => rfl); (case hr => first | (go_simp; done) | (go_simp; rfl)); intro gb505 hg w3 hbox hb; have n0_ := Aside0.mk (below_step (by repeat (first | (with_reducible first | exact HB.out | apply below_alloc | apply pw_below_drewN | apply below_drew1) | exact HB.out)) hb); have n1_ := Aside0.mk (hbox); have n2_ := Aside0.mk ((by rw [hg]; exact (below_size (by repeat (first | (with_reducible first | exact HB.out | apply below_alloc | apply pw_below_drewN | apply below_drew1) | exact HB.out))) : w.heap.size ≤ gb505)); have n3_ := Aside0.mk ((by rw [hg]; exact (below_size (by repeat (first | (with_reducible first | exact HB.out | apply below_alloc | apply pw_below_drewN | apply below_drew1) | exact HB.out))) : w.heap.size ≤ gb505)); clear HB; have HB := n0_; have BK505 := n1_; have GW505 := n2_; have GE505 := n3_; clear n0_ n1_ n2_ n3_; clear hb hbox hg; obtain ⟨hcz4_0, hcz4_1, hcz4_2, hcz4_3, hcz4_4, hcz4_5, hcz4_6, hcz4_7, hcz4_8, hcz4_9, hcz4_10, hcz4_11, hcz4_12⟩ := cellsK13 BK505.out; obtain ⟨hfz4_0, hfz4_1, hfz4_2, hfz4_3, hfz4_4, hfz4_5, hfz4_6, hfz4_7, hfz4_8, hfz4_9, hfz4_10, hfz4_11, hfz4_12⟩ := frozK13 BK505.out) | ((with_reducible refine gate_callee (f := 45) rfl ?_); refine goesL_ (some 4) rfl rfl Tryd.func45 (by kernel_rfl) rfl #[.agg #[.slice A0_0 l0_0.length c0_0, .slice A0_1 l0_1.length c0_1, .int .i64 a0_2, .int .i64 a0_3, .int .i64 a0_4, .int .i64 a0_5, .int .i64 a0_6, .int .i64 a0_7, .int .i64 a0_8, .int .i64 a0_9, .int .i64 a0_10, .int .i64 a0_11, .int .i64 a0_12]] rfl (by (try simp only [List.map_toArray, List.map_cons, List.map_nil]); first | done | rfl | (simp only [List.length_drop, List.length_take]; rfl)) ?_; (with_reducible refine (bounds_in.calls k _ _ l0_0 _ _ l0_1 a0_2 a0_3 a0_4 a0_5 a0_6 a0_7 a0_8 a0_9 a0_10 a0_11 a0_12 t506 t507 t508 t509 t510 t511 t512 _ ?side1 ?side2 ?side3 ?side4 A2.out).mono ?_); (case side1 => repeat (first | exact (Kd.C_below HR0_0.out HB.out) | (with_reducible refine Kd.C_alloc ?_ _) | (with_reducible refine Kd.C_drewN ?_ _) | (with_reducible refine Kd.C_drew ?_))); (case side2 => exact HC0_0.out); (case side3 => repeat (first | exact (Kd.C_below HR0_1.out HB.out) | (with_reducible refine Kd.C_alloc ?_ _) | (with_reducible refine Kd.C_drewN ?_ _) | (with_reducible refine Kd.C_drew ?_))); (case side4 => exact HC0_1.out); rintro e w5 ⟨rfl, hb⟩; refine ⟨_, rfl, ?_⟩; have n0_ := Aside0.mk (blk_below (g := gb505) (o := .cells #[.slice A0_0 l0_0.length c0_0, .slice A0_1 l0_1.length c0_1, .int .i64 a0_2, .int .i64 a0_3, .int .i64 a0_4, .int .i64 a0_5, .int .i64 a0_6, .int .i64 a0_7, .int .i64 a0_8, .int .i64 a0_9, .int .i64 a0_10, .int .i64 a0_11, .int .i64 a0_12] 25 (0, 0)) (by (with_reducible repeat (first | refine blk_drewN ?_ _ | refine blk_drew ?_ | refine blk_alloc ?_ _)); exact BK505.out) hb); have n1_ := Aside0.mk (below_step (by repeat (first | (with_reducible first | exact HB.out | apply below_alloc | apply pw_below_drewN | apply below_drew1 | refine below_set ?_ GE505.out) | exact HB.out)) hb); clear BK505; clear HB; have BK505 := n0_; have HB := n1_; clear n0_ n1_; (try clear hb); (try clear hb2); (try clear hk); (try clear hi)))
 go_ret
 exact ⟨by first | rfl | (simp [errW_none, errW_some] <;> rfl) | (simp [*, errW_none, errW_some] <;> rfl), by repeat (first | (with_reducible first | exact HB.out | apply below_alloc | apply pw_below_drewN | apply below_drew1 | refine below_set ?_ GE505.out) | exact HB.out)⟩

end Go.Proofs.YtkhlndhleiaokaaDoor.MHo
