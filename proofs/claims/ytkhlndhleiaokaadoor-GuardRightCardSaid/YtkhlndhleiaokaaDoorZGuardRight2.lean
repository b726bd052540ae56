/- Texts that GuardRight leans on, laid together by a program (wip/d/merge.py): MHox11, MHox8, Ha, Hb, Hc, MHox2, MHox3, Hr, MHox4. -/
import Derived.Test.YtkhlndhleiaokaaDoorZGuardRight1
namespace Go.Proofs.YtkhlndhleiaokaaDoor.MHo
open Go.RowKit Go.Proofs.YtkhlndhleiaokaaDoorW.PrintWords Go.Proofs.YtkhlndhleiaokaaDoorW.PrintLast Go.Proofs.YtkhlndhleiaokaaDoorW.PrintMore
attribute [local go_sem] mp_u32s mp_u32m mp_u8s mp_u8m max2_int min2_int max_two min_two max_three min_three max_four min_four   -- for this text's walks alone
set_option linter.unusedVariables false
set_option linter.unusedSimpArgs false

/-! ### plan_end: function 92 -/
def plan_end.f (a0_0 : Int) (a0_1 : Int) (a0_2 : Int) (a0_3 : Int) (a0_4 : Int) (a0_5 : Int) (a1 : Int) : Option (Int × Int × Int) := if a1 = 0 then (some (a0_0, a0_2, a0_3)) else (some (a0_1, a0_4, a0_5))
set_option maxHeartbeats 8000000 in
set_option maxRecDepth 100000 in
theorem plan_end.calls (a0_0 : Int) (a0_1 : Int) (a0_2 : Int) (a0_3 : Int) (a0_4 : Int) (a0_5 : Int) (a1 : Int) (r1 : Int) (r2 : Int) (r3 : Int) (w : World) (h : plan_end.f a0_0 a0_1 a0_2 a0_3 a0_4 a0_5 a1 = some (r1, r2, r3)) :
  Calls Tryd.prog 92 #[.agg #[.int .i64 a0_0, .int .i64 a0_1, .int .i64 a0_2, .int .i64 a0_3, .int .i64 a0_4, .int .i64 a0_5], .int .i64 a1] w fun e w' => e = .returned (.tuple #[.int .i64 r1, .agg #[.int .i64 r2, .int .i64 r3]]) ∧ Below w.heap.size w w' := by
 have hu37 := Tryd.underlying37
 have hu35 := Tryd.underlying35
 have HB := Aside0.mk (Below.refl w.heap.size w)
 have H : (if a1 = 0 then (some (a0_0, a0_2, a0_3)) else (some (a0_1, a0_4, a0_5))) = some (r1, r2, r3) := h
 clear h
 by_cases c3 : a1 = 0
 ·rw [if_pos c3] at H
  have c3b0 : (a1 == 0) = true := beq_iff_eq.mpr c3
  have c3b1 : (a1 != 0) = false := bne_eq_false_iff_eq.mpr c3
  clear c3
  simp only [Option.some.injEq, Prod.mk.injEq] at H
  obtain ⟨rfl, rfl, rfl⟩ := H
  go_enter Tryd.func92, Tryd.ntmps92
  try go_wp2_with (first | ((with_reducible refine gate_dst (N := 2) rfl ?_); refine box_event ?hg (N := 2) ?hd (cs := #[.int .i64 a0_0, .int .i64 a0_1, .int .i64 a0_2, .int .i64 a0_3, .int .i64 a0_4, .int .i64 a0_5]) (t := 37) ?hr ?_; (case hd => rfl); (case hg => rfl); (case hr => first | (go_simp; done) | (go_simp; rfl)); intro gb122 hg w4 hbox hb; have n0_ := Aside0.mk (below_step (by repeat (first | (with_reducible first | exact HB.out | apply below_alloc | apply pw_below_drewN | apply below_drew1) | exact HB.out)) hb); have n1_ := Aside0.mk (hbox); have n2_ := Aside0.mk ((by rw [hg]; exact (below_size (by repeat (first | (with_reducible first | exact HB.out | apply below_alloc | apply pw_below_drewN | apply below_drew1) | exact HB.out))) : w.heap.size ≤ gb122)); have n3_ := Aside0.mk ((by rw [hg]; exact (below_size (by repeat (first | (with_reducible first | exact HB.out | apply below_alloc | apply pw_below_drewN | apply below_drew1) | exact HB.out))) : w.heap.size ≤ gb122)); clear HB; have HB := n0_; have BK122 := n1_; have GW122 := n2_; have GE122 := n3_; clear n0_ n1_ n2_ n3_; clear hb hbox hg) | ((with_reducible refine gate_dst (N := 5) rfl ?_); refine box_event ?hg (N := 5) ?hd (cs := #[.int .i64 0, .int .i64 0]) (t := 35) ?hr ?_; (case hd => rfl); (case hg => rfl); (case hr => first | (go_simp; done) | (go_simp; rfl)); intro gb123 hg w5 hbox hb; have n0_ := Aside0.mk (blk_below (g := gb122) (o := .cells #[.int .i64 a0_0, .int .i64 a0_1, .int .i64 a0_2, .int .i64 a0_3, .int .i64 a0_4, .int .i64 a0_5] 37 (0, 0)) (by (with_reducible repeat (first | refine blk_drewN ?_ _ | refine blk_drew ?_ | refine blk_alloc ?_ _)); exact BK122.out) hb); have n1_ := Aside0.mk (below_step (by repeat (first | (with_reducible first | exact HB.out | apply below_alloc | apply pw_below_drewN | apply below_drew1 | refine below_set ?_ GE122.out) | exact HB.out)) hb); have n2_ := Aside0.mk (hbox); have n3_ := Aside0.mk ((by rw [hg]; exact (below_size (by repeat (first | (with_reducible first | exact HB.out | apply below_alloc | apply pw_below_drewN | apply below_drew1 | refine below_set ?_ GE122.out) | exact HB.out))) : w.heap.size ≤ gb123)); have n4_ := Aside0.mk ((by rw [hg]; exact (below_size (by repeat (first | (with_reducible first | exact HB.out | apply below_alloc | apply pw_below_drewN | apply below_drew1 | refine below_set ?_ GE122.out) | exact HB.out))) : w.heap.size ≤ gb123)); have n5_ := Aside0.mk ((by rw [hg]; exact Nat.ne_of_lt (blk_lt (g := gb122) (o := .cells #[.int .i64 a0_0, .int .i64 a0_1, .int .i64 a0_2, .int .i64 a0_3, .int .i64 a0_4, .int .i64 a0_5] 37 (0, 0)) (by (with_reducible repeat (first | refine blk_drewN ?_ _ | refine blk_drew ?_ | refine blk_alloc ?_ _)); exact BK122.out)) : gb122 ≠ gb123)); have n6_ := Aside0.mk ((by rw [hg]; exact Nat.ne_of_gt (blk_lt (g := gb122) (o := .cells #[.int .i64 a0_0, .int .i64 a0_1, .int .i64 a0_2, .int .i64 a0_3, .int .i64 a0_4, .int .i64 a0_5] 37 (0, 0)) (by (with_reducible repeat (first | refine blk_drewN ?_ _ | refine blk_drew ?_ | refine blk_alloc ?_ _)); exact BK122.out)) : gb123 ≠ gb122)); clear BK122; clear HB; have BK122 := n0_; have HB := n1_; have BK123 := n2_; have GW123 := n3_; have GE123 := n4_; have NB122_123 := n5_; have NB123_122 := n6_; clear n0_ n1_ n2_ n3_ n4_ n5_ n6_; clear hb hbox hg))
  have n0_ := Aside0.mk (blk_drew BK122.out)
  have n1_ := Aside0.mk (blk_drew BK123.out)
  have n2_ := Aside0.mk (below_drew1 HB.out)
  clear BK122
  clear BK123
  clear HB
  have BK122 := n0_
  have BK123 := n1_
  have HB := n2_
  clear n0_ n1_ n2_
  refine start_ (n := 6) (S := fun w' => w'.cell? ⟨gb122, 0, none⟩ = some (.int .i64 a0_0) ∧ w'.cell? ⟨gb122, 1, none⟩ = some (.int .i64 a0_1) ∧ w'.cell? ⟨gb122, 2, none⟩ = some (.int .i64 a0_2) ∧ w'.cell? ⟨gb122, 3, none⟩ = some (.int .i64 a0_3) ∧ w'.cell? ⟨gb122, 4, none⟩ = some (.int .i64 a0_4) ∧ w'.cell? ⟨gb122, 5, none⟩ = some (.int .i64 a0_5)) (ds := []) #[false, false, false, false, false, false] (by kernel_rfl) rfl rfl ⟨(blk_cell BK122.out 0).trans rfl, (blk_cell BK122.out 1).trans rfl, (blk_cell BK122.out 2).trans rfl, (blk_cell BK122.out 3).trans rfl, (blk_cell BK122.out 4).trans rfl, (blk_cell BK122.out 5).trans rfl⟩ (fun hHeld => ?_)
  generalize w5.drew = w6 at BK122 BK123 HB hHeld ⊢
  refine pure_ (i := 0) (N := some 8) (v := ?_) (a' := ?_) #[true, false, false, false, false, false] rfl rfl (by kernel_rfl) (fun _ _ _ h => h) (Or.inl ⟨by rfl, ?_⟩) ?_ ?_
  rotate_left
  ·intro w'
   go_simp
   with_reducible rfl
  rotate_left
  ·simp only [Act.put, List.setIfInBounds_toArray, List.set_cons_zero, List.set_cons_succ, i64_w, i32_w]
   rfl
  refine pure_ (i := 2) (N := some 10) (v := ?_) (a' := ?_) #[true, false, true, false, false, false] rfl rfl (by kernel_rfl) (fun _ _ _ h => h) (Or.inl ⟨by rfl, ?_⟩) ?_ ?_
  rotate_left
  ·intro w'
   go_simp
   with_reducible rfl
  rotate_left
  ·simp only [Act.put, List.setIfInBounds_toArray, List.set_cons_zero, List.set_cons_succ, i64_w, i32_w]
   rfl
  refine take_ (i := 1) (N := some 9) (v := ?_) (a' := ?_) #[true, true, true, false, false, false] rfl rfl (by kernel_rfl) (fun _ _ _ h => h) (Or.inl ⟨by rfl, ?_⟩) hHeld ?_ ?_
  rotate_left
  ·rintro w' ⟨s0, s1, s2, s3, s4, s5⟩
   go_simp
   with_reducible rfl
  rotate_left
  ·simp only [Act.put, List.setIfInBounds_toArray, List.set_cons_zero, List.set_cons_succ, i64_w, i32_w]
   rfl
  refine pure_ (i := 4) (N := some 4) (v := ?_) (a' := ?_) #[true, true, true, false, true, false] rfl rfl (by kernel_rfl) (fun _ _ _ h => h) (Or.inl ⟨by rfl, ?_⟩) ?_ ?_
  rotate_left
  ·intro w'
   go_simp
   with_reducible rfl
  rotate_left
  ·simp only [Act.put, List.setIfInBounds_toArray, List.set_cons_zero, List.set_cons_succ, i64_w, i32_w]
   rfl
  refine take_ (i := 3) (N := some 11) (v := ?_) (a' := ?_) #[true, true, true, true, true, false] rfl rfl (by kernel_rfl) (fun _ _ _ h => h) (Or.inl ⟨by rfl, ?_⟩) hHeld ?_ ?_
  rotate_left
  ·rintro w' ⟨s0, s1, s2, s3, s4, s5⟩
   go_simp
   with_reducible rfl
  rotate_left
  ·simp only [Act.put, List.setIfInBounds_toArray, List.set_cons_zero, List.set_cons_succ, i64_w, i32_w]
   rfl
  refine one_ (i := 5) (N := none) #[true, true, true, true, true, true] rfl rfl (by kernel_rfl) (by decide) (fun K hK => ?_)
  have hs7 : w6.cell? ⟨gb123, 0, none⟩ = some (.int .i64 0) := (blk_cell BK123.out 0).trans rfl
  have hfs7 := blk_frozen BK123.out 0
  have hns7_0 := NB122_123.out
  have hms7_0 := NB123_122.out
  have hs8 : w6.cell? ⟨gb123, 1, none⟩ = some (.int .i64 0) := (blk_cell BK123.out 1).trans rfl
  have hfs8 := blk_frozen BK123.out 1
  have hns8_0 := NB122_123.out
  have hms8_0 := NB123_122.out
  refine skip_ (w1 := ?_) (by rfl) rfl ?_ ?_
  rotate_left
  ·go_simp
   rfl
  refine hK.out _ _ ⟨((cell_far (p := ⟨gb123, _, none⟩) NB122_123.out _).trans (((cell_far (p := ⟨gb123, _, none⟩) NB122_123.out _).trans (hHeld.1)))), ((cell_far (p := ⟨gb123, _, none⟩) NB122_123.out _).trans (((cell_far (p := ⟨gb123, _, none⟩) NB122_123.out _).trans (hHeld.2.1)))), ((cell_far (p := ⟨gb123, _, none⟩) NB122_123.out _).trans (((cell_far (p := ⟨gb123, _, none⟩) NB122_123.out _).trans (hHeld.2.2.1)))), ((cell_far (p := ⟨gb123, _, none⟩) NB122_123.out _).trans (((cell_far (p := ⟨gb123, _, none⟩) NB122_123.out _).trans (hHeld.2.2.2.1)))), ((cell_far (p := ⟨gb123, _, none⟩) NB122_123.out _).trans (((cell_far (p := ⟨gb123, _, none⟩) NB122_123.out _).trans (hHeld.2.2.2.2.1)))), ((cell_far (p := ⟨gb123, _, none⟩) NB122_123.out _).trans (((cell_far (p := ⟨gb123, _, none⟩) NB122_123.out _).trans (hHeld.2.2.2.2.2))))⟩ (fun hHeld => ?_)
  clear hK K
  refine done_ (by kernel_rfl) ?_
  try go_wp2
  refine bodyPost_ret (results_tc rfl _ _ gb123 35 #[.int .i64 a0_2, .int .i64 a0_3] (0, 0) _ rfl (by (with_reducible repeat (first | refine blk_drewN ?_ _ | refine blk_drew ?_ | refine blk_alloc ?_ _)); refine blk_put (cs := #[.int .i64 a0_2, .int .i64 0]) ?_ 1 _ rfl; (with_reducible repeat (first | refine blk_drewN ?_ _ | refine blk_drew ?_ | refine blk_alloc ?_ _)); refine blk_put (cs := #[.int .i64 0, .int .i64 0]) ?_ 0 _ rfl; (with_reducible repeat (first | refine blk_drewN ?_ _ | refine blk_drew ?_ | refine blk_alloc ?_ _)); exact BK123.out) Tryd.underlying35 rfl (by kernel_rfl)) rfl ?_
  exact ⟨by first | rfl | (simp [errW_none, errW_some] <;> rfl) | (simp [*, errW_none, errW_some] <;> rfl), by repeat (first | (with_reducible first | exact HB.out | apply below_alloc | apply pw_below_drewN | apply below_drew1 | refine below_set ?_ GE122.out | refine below_set ?_ GE123.out) | exact HB.out)⟩
 ·rw [if_neg c3] at H
  have c3b0 : (a1 == 0) = false := beq_eq_false_iff_ne.mpr c3
  have c3b1 : (a1 != 0) = true := bne_iff_ne.mpr c3
  simp only [Option.some.injEq, Prod.mk.injEq] at H
  obtain ⟨rfl, rfl, rfl⟩ := H
  go_enter Tryd.func92, Tryd.ntmps92
  try go_wp2_with (first | ((with_reducible refine gate_dst (N := 2) rfl ?_); refine box_event ?hg (N := 2) ?hd (cs := #[.int .i64 a0_0, .int .i64 a0_1, .int .i64 a0_2, .int .i64 a0_3, .int .i64 a0_4, .int .i64 a0_5]) (t := 37) ?hr ?_; (case hd => rfl); (case hg => rfl); (case hr => first | (go_simp; done) | (go_simp; rfl)); intro gb122 hg w9 hbox hb; have n0_ := Aside0.mk (below_step (by repeat (first | (with_reducible first | exact HB.out | apply below_alloc | apply pw_below_drewN | apply below_drew1) | exact HB.out)) hb); have n1_ := Aside0.mk (hbox); have n2_ := Aside0.mk ((by rw [hg]; exact (below_size (by repeat (first | (with_reducible first | exact HB.out | apply below_alloc | apply pw_below_drewN | apply below_drew1) | exact HB.out))) : w.heap.size ≤ gb122)); have n3_ := Aside0.mk ((by rw [hg]; exact (below_size (by repeat (first | (with_reducible first | exact HB.out | apply below_alloc | apply pw_below_drewN | apply below_drew1) | exact HB.out))) : w.heap.size ≤ gb122)); clear HB; have HB := n0_; have BK122 := n1_; have GW122 := n2_; have GE122 := n3_; clear n0_ n1_ n2_ n3_; clear hb hbox hg) | ((with_reducible refine gate_dst (N := 5) rfl ?_); refine box_event ?hg (N := 5) ?hd (cs := #[.int .i64 0, .int .i64 0]) (t := 35) ?hr ?_; (case hd => rfl); (case hg => rfl); (case hr => first | (go_simp; done) | (go_simp; rfl)); intro gb123 hg w10 hbox hb; have n0_ := Aside0.mk (blk_below (g := gb122) (o := .cells #[.int .i64 a0_0, .int .i64 a0_1, .int .i64 a0_2, .int .i64 a0_3, .int .i64 a0_4, .int .i64 a0_5] 37 (0, 0)) (by (with_reducible repeat (first | refine blk_drewN ?_ _ | refine blk_drew ?_ | refine blk_alloc ?_ _)); exact BK122.out) hb); have n1_ := Aside0.mk (below_step (by repeat (first | (with_reducible first | exact HB.out | apply below_alloc | apply pw_below_drewN | apply below_drew1 | refine below_set ?_ GE122.out) | exact HB.out)) hb); have n2_ := Aside0.mk (hbox); have n3_ := Aside0.mk ((by rw [hg]; exact (below_size (by repeat (first | (with_reducible first | exact HB.out | apply below_alloc | apply pw_below_drewN | apply below_drew1 | refine below_set ?_ GE122.out) | exact HB.out))) : w.heap.size ≤ gb123)); have n4_ := Aside0.mk ((by rw [hg]; exact (below_size (by repeat (first | (with_reducible first | exact HB.out | apply below_alloc | apply pw_below_drewN | apply below_drew1 | refine below_set ?_ GE122.out) | exact HB.out))) : w.heap.size ≤ gb123)); have n5_ := Aside0.mk ((by rw [hg]; exact Nat.ne_of_lt (blk_lt (g := gb122) (o := .cells #[.int .i64 a0_0, .int .i64 a0_1, .int .i64 a0_2, .int .i64 a0_3, .int .i64 a0_4, .int .i64 a0_5] 37 (0, 0)) (by (with_reducible repeat (first | refine blk_drewN ?_ _ | refine blk_drew ?_ | refine blk_alloc ?_ _)); exact BK122.out)) : gb122 ≠ gb123)); have n6_ := Aside0.mk ((by rw [hg]; exact Nat.ne_of_gt (blk_lt (g := gb122) (o := .cells #[.int .i64 a0_0, .int .i64 a0_1, .int .i64 a0_2, .int .i64 a0_3, .int .i64 a0_4, .int .i64 a0_5] 37 (0, 0)) (by (with_reducible repeat (first | refine blk_drewN ?_ _ | refine blk_drew ?_ | refine blk_alloc ?_ _)); exact BK122.out)) : gb123 ≠ gb122)); clear BK122; clear HB; have BK122 := n0_; have HB := n1_; have BK123 := n2_; have GW123 := n3_; have GE123 := n4_; have NB122_123 := n5_; have NB123_122 := n6_; clear n0_ n1_ n2_ n3_ n4_ n5_ n6_; clear hb hbox hg))
  have n0_ := Aside0.mk (blk_drew BK122.out)
  have n1_ := Aside0.mk (blk_drew BK123.out)
  have n2_ := Aside0.mk (below_drew1 HB.out)
  clear BK122
  clear BK123
  clear HB
  have BK122 := n0_
  have BK123 := n1_
  have HB := n2_
  clear n0_ n1_ n2_
  refine start_ (n := 6) (S := fun w' => w'.cell? ⟨gb122, 0, none⟩ = some (.int .i64 a0_0) ∧ w'.cell? ⟨gb122, 1, none⟩ = some (.int .i64 a0_1) ∧ w'.cell? ⟨gb122, 2, none⟩ = some (.int .i64 a0_2) ∧ w'.cell? ⟨gb122, 3, none⟩ = some (.int .i64 a0_3) ∧ w'.cell? ⟨gb122, 4, none⟩ = some (.int .i64 a0_4) ∧ w'.cell? ⟨gb122, 5, none⟩ = some (.int .i64 a0_5)) (ds := []) #[false, false, false, false, false, false] (by kernel_rfl) rfl rfl ⟨(blk_cell BK122.out 0).trans rfl, (blk_cell BK122.out 1).trans rfl, (blk_cell BK122.out 2).trans rfl, (blk_cell BK122.out 3).trans rfl, (blk_cell BK122.out 4).trans rfl, (blk_cell BK122.out 5).trans rfl⟩ (fun hHeld => ?_)
  generalize w10.drew = w11 at BK122 BK123 HB hHeld ⊢
  refine pure_ (i := 0) (N := some 12) (v := ?_) (a' := ?_) #[true, false, false, false, false, false] rfl rfl (by kernel_rfl) (fun _ _ _ h => h) (Or.inl ⟨by rfl, ?_⟩) ?_ ?_
  rotate_left
  ·intro w'
   go_simp
   with_reducible rfl
  rotate_left
  ·simp only [Act.put, List.setIfInBounds_toArray, List.set_cons_zero, List.set_cons_succ, i64_w, i32_w]
   rfl
  refine pure_ (i := 2) (N := some 14) (v := ?_) (a' := ?_) #[true, false, true, false, false, false] rfl rfl (by kernel_rfl) (fun _ _ _ h => h) (Or.inl ⟨by rfl, ?_⟩) ?_ ?_
  rotate_left
  ·intro w'
   go_simp
   with_reducible rfl
  rotate_left
  ·simp only [Act.put, List.setIfInBounds_toArray, List.set_cons_zero, List.set_cons_succ, i64_w, i32_w]
   rfl
  refine take_ (i := 1) (N := some 13) (v := ?_) (a' := ?_) #[true, true, true, false, false, false] rfl rfl (by kernel_rfl) (fun _ _ _ h => h) (Or.inl ⟨by rfl, ?_⟩) hHeld ?_ ?_
  rotate_left
  ·rintro w' ⟨s0, s1, s2, s3, s4, s5⟩
   go_simp
   with_reducible rfl
  rotate_left
  ·simp only [Act.put, List.setIfInBounds_toArray, List.set_cons_zero, List.set_cons_succ, i64_w, i32_w]
   rfl
  refine pure_ (i := 4) (N := some 4) (v := ?_) (a' := ?_) #[true, true, true, false, true, false] rfl rfl (by kernel_rfl) (fun _ _ _ h => h) (Or.inl ⟨by rfl, ?_⟩) ?_ ?_
  rotate_left
  ·intro w'
   go_simp
   with_reducible rfl
  rotate_left
  ·simp only [Act.put, List.setIfInBounds_toArray, List.set_cons_zero, List.set_cons_succ, i64_w, i32_w]
   rfl
  refine take_ (i := 3) (N := some 15) (v := ?_) (a' := ?_) #[true, true, true, true, true, false] rfl rfl (by kernel_rfl) (fun _ _ _ h => h) (Or.inl ⟨by rfl, ?_⟩) hHeld ?_ ?_
  rotate_left
  ·rintro w' ⟨s0, s1, s2, s3, s4, s5⟩
   go_simp
   with_reducible rfl
  rotate_left
  ·simp only [Act.put, List.setIfInBounds_toArray, List.set_cons_zero, List.set_cons_succ, i64_w, i32_w]
   rfl
  refine one_ (i := 5) (N := none) #[true, true, true, true, true, true] rfl rfl (by kernel_rfl) (by decide) (fun K hK => ?_)
  have hs12 : w11.cell? ⟨gb123, 0, none⟩ = some (.int .i64 0) := (blk_cell BK123.out 0).trans rfl
  have hfs12 := blk_frozen BK123.out 0
  have hns12_0 := NB122_123.out
  have hms12_0 := NB123_122.out
  have hs13 : w11.cell? ⟨gb123, 1, none⟩ = some (.int .i64 0) := (blk_cell BK123.out 1).trans rfl
  have hfs13 := blk_frozen BK123.out 1
  have hns13_0 := NB122_123.out
  have hms13_0 := NB123_122.out
  refine skip_ (w1 := ?_) (by rfl) rfl ?_ ?_
  rotate_left
  ·go_simp
   rfl
  refine hK.out _ _ ⟨((cell_far (p := ⟨gb123, _, none⟩) NB122_123.out _).trans (((cell_far (p := ⟨gb123, _, none⟩) NB122_123.out _).trans (hHeld.1)))), ((cell_far (p := ⟨gb123, _, none⟩) NB122_123.out _).trans (((cell_far (p := ⟨gb123, _, none⟩) NB122_123.out _).trans (hHeld.2.1)))), ((cell_far (p := ⟨gb123, _, none⟩) NB122_123.out _).trans (((cell_far (p := ⟨gb123, _, none⟩) NB122_123.out _).trans (hHeld.2.2.1)))), ((cell_far (p := ⟨gb123, _, none⟩) NB122_123.out _).trans (((cell_far (p := ⟨gb123, _, none⟩) NB122_123.out _).trans (hHeld.2.2.2.1)))), ((cell_far (p := ⟨gb123, _, none⟩) NB122_123.out _).trans (((cell_far (p := ⟨gb123, _, none⟩) NB122_123.out _).trans (hHeld.2.2.2.2.1)))), ((cell_far (p := ⟨gb123, _, none⟩) NB122_123.out _).trans (((cell_far (p := ⟨gb123, _, none⟩) NB122_123.out _).trans (hHeld.2.2.2.2.2))))⟩ (fun hHeld => ?_)
  clear hK K
  refine done_ (by kernel_rfl) ?_
  try go_wp2
  refine bodyPost_ret (results_tc rfl _ _ gb123 35 #[.int .i64 a0_4, .int .i64 a0_5] (0, 0) _ rfl (by (with_reducible repeat (first | refine blk_drewN ?_ _ | refine blk_drew ?_ | refine blk_alloc ?_ _)); refine blk_put (cs := #[.int .i64 a0_4, .int .i64 0]) ?_ 1 _ rfl; (with_reducible repeat (first | refine blk_drewN ?_ _ | refine blk_drew ?_ | refine blk_alloc ?_ _)); refine blk_put (cs := #[.int .i64 0, .int .i64 0]) ?_ 0 _ rfl; (with_reducible repeat (first | refine blk_drewN ?_ _ | refine blk_drew ?_ | refine blk_alloc ?_ _)); exact BK123.out) Tryd.underlying35 rfl (by kernel_rfl)) rfl ?_
  exact ⟨by first | rfl | (simp [errW_none, errW_some] <;> rfl) | (simp [*, errW_none, errW_some] <;> rfl), by repeat (first | (with_reducible first | exact HB.out | apply below_alloc | apply pw_below_drewN | apply below_drew1 | refine below_set ?_ GE122.out | refine below_set ?_ GE123.out) | exact HB.out)⟩


/-! ### plan_index: function 86 -/
def plan_index.f (a0 : Int) (a1 : Int) : Option (Bool) := if a0 ≥ 0 then (some (decide (a0 < a1))) else (some false)
set_option maxHeartbeats 8000000 in
set_option maxRecDepth 100000 in
theorem plan_index.calls (a0 : Int) (a1 : Int) (r : Bool) (w : World) (h : plan_index.f a0 a1 = some r) :
  Calls Tryd.prog 86 #[.int .i64 a0, .int .i64 a1] w fun e w' => e = .returned (.bool r) ∧ Drawn0 w w' := by
 have H : (if a0 ≥ 0 then (some (decide (a0 < a1))) else (some false)) = some r := h
 clear h
 by_cases c3 : a0 ≥ 0
 ·rw [if_pos c3] at H
  have c3b0 : decide (0 ≤ a0) = true := decide_eq_true c3
  clear c3
  obtain rfl := Option.some.inj H
  go_enter Tryd.func86, Tryd.ntmps86
  go_wp2
  go_ret
  exact ⟨by first | rfl | (simp; done) | (simp [*]; done), by repeat (first | exact Drawn0.refl _ | apply Drawn0.step)⟩
 ·rw [if_neg c3] at H
  have c3b0 : decide (0 ≤ a0) = false := decide_eq_false c3
  clear c3
  obtain rfl := Option.some.inj H
  go_enter Tryd.func86, Tryd.ntmps86
  go_wp2
  go_ret
  exact ⟨by first | rfl | (simp; done) | (simp [*]; done), by repeat (first | exact Drawn0.refl _ | apply Drawn0.step)⟩

end Go.Proofs.YtkhlndhleiaokaaDoor.MHo
set_option linter.unusedVariables false
set_option linter.unusedSimpArgs false
namespace Go.Proofs.YtkhlndhleiaokaaDoor.MHo
open Go.RowKit Go.Proofs.YtkhlndhleiaokaaDoorW.PrintWords Go.Proofs.YtkhlndhleiaokaaDoorW.PrintLast Go.Proofs.YtkhlndhleiaokaaDoorW.PrintMore
/-- A call of a function that has a body enters it. -/
theorem entersT {f : Nat} {fn : Func} {c : Code} (hf : Tryd.prog.funcs[f]? = some fn) (hn : (fn.name == "runtime.NumGoroutine") = false) (hb : fn.body = some c) (args : Array Value) (w : World) : (callFunc f args).run Tryd.prog w = .ok (.enter f args) w := by
  have hne : ¬ (fn.name = "runtime.NumGoroutine") := fun e => by rw [e] at hn; exact absurd hn (by decide)
  simp [callFunc, hf, hne, hb, mark]
/-- A link's cells as a value. -/
abbrev val37 (x : S37) : Value := .agg #[.int .i64 x.f0, .int .i64 x.f1, .int .i64 x.f2.f0, .int .i64 x.f2.f1, .int .i64 x.f3.f0, .int .i64 x.f3.f1]
/-- What is asked of a predicate on links that may lay blocks of its own. -/
def PredB (g : Nat) (lb : Array Value) (p : S37 → Bool) (w : World) : Prop :=
  ∀ (W : World) (x : S37), Below w.heap.size w W → Calls Tryd.prog g (#[val37 x] ++ lb) W fun e w' => e = .returned (.bool (p x)) ∧ Below W.heap.size W w'
/-- The first of which a predicate holds; -1. -/
def findI (p : S37 → Bool) (l : List S37) : Int := match l.findIdx? p with | some i => (i : Int) | none => -1
theorem findI_hit {p : S37 → Bool} {l : List S37} {i : Nat} (hi : i < l.length) (hp : p (rd_T37 l i) = true) (hb : ∀ j : Nat, j < i → p (rd_T37 l j) = false) : findI p l = i := by
  have : l.findIdx? p = some i := by
    rw [List.findIdx?_eq_some_iff_getElem]
    refine ⟨hi, by simpa [rd_T37, List.getD_eq_getElem?_getD, hi] using hp, fun j hj => ?_⟩
    have := hb j hj
    have hjl : j < l.length := by omega
    simpa [rd_T37, List.getD_eq_getElem?_getD, hjl] using this
  unfold findI
  rw [this]
theorem findI_miss {p : S37 → Bool} {l : List S37} (hb : ∀ j : Nat, j < l.length → p (rd_T37 l j) = false) : findI p l = -1 := by
  have : l.findIdx? p = none := by
    rw [List.findIdx?_eq_none_iff]
    intro x hx
    obtain ⟨j, hj, rfl⟩ := List.mem_iff_getElem.1 hx
    have := hb j hj
    simpa [rd_T37, List.getD_eq_getElem?_getD, hj] using this
  unfold findI
  rw [this]
theorem findI_any (p : S37 → Bool) (l : List S37) : decide (0 ≤ findI p l) = l.any p := by
  unfold findI
  cases h : l.findIdx? p with
  | none =>
    rw [List.findIdx?_eq_none_iff] at h
    simp only [show decide ((0 : Int) ≤ -1) = false by decide]
    symm
    rw [List.any_eq_false]
    intro x hx
    simp [h x hx]
  | some i =>
    rw [List.findIdx?_eq_some_iff_getElem] at h
    obtain ⟨hi, hp, _⟩ := h
    simp only [show decide ((0 : Int) ≤ (i : Int)) = true from decide_eq_true (by omega)]
    symm
    rw [List.any_eq_true]
    exact ⟨_, List.getElem_mem hi, hp⟩
set_option maxHeartbeats 1000000 in
set_option maxRecDepth 4000 in
theorem indexFunc (p : S37 → Bool) (g : Nat) (lb : Array Value) (eg : ∀ args w, (callFunc g args).run Tryd.prog w = .ok (.enter g args) w) (A0 : Option Addr) (c0 : Nat) (l : List S37) (w : World)
    (hr : Kd.C k37 w A0 l.length l) (hl : l.length ≤ 1000000) (hp : PredB g lb p w) :
    Calls Tryd.prog 51 #[.slice A0 l.length c0, .func (.func g) #[] lb] w fun e w' => e = .returned (.int .i64 (findI p l)) ∧ Below w.heap.size w w' := by
  have HR := Aside0.mk hr
  have HP := Aside0.mk hp
  clear hr hp
  go_enter Tryd.func51, Tryd.ntmps51
  go_wp2_with fail
  go_loopg [5, 8] (l.length + 1) (fun kq _ v8 w' => ∃ i : Int, v8 = .int .i64 i ∧ Aside0 (kq + i = l.length + 1 ∧ 0 ≤ i) ∧ Aside0 (Below w.heap.size w w') ∧ Aside0 (∀ j : Nat, (j : Int) < i → p (rd_T37 l j) = false))
  case atStart => exact ⟨0, rfl, ⟨by omega⟩, ⟨Below.refl _ _⟩, ⟨fun j hj => absurd hj (by omega)⟩⟩
  case round =>
    obtain ⟨i, rfl, HK, HB, HN⟩ := hrel
    by_cases hi : i < (l.length : Int)
    · have h0 := HK.out.2
      obtain ⟨ad, e, x0, x1, x2, x3, x4, x5⟩ := at_T37 (Kd.C_below HR.out HB.out) i h0 hi
      cases e
      have hcall := HP.out wr (rd_T37 l i) HB.out
      have hlt : decide (i < (l.length : Int)) = true := decide_eq_true hi
      have hpx : Aside0 (p (rd_T37 l i) = p (rd_T37 l i)) := ⟨rfl⟩
      have Hrd : Aside0 (∃ x, rd_T37 l i = x) := ⟨_, rfl⟩
      obtain ⟨x, hx⟩ := Hrd.out
      rw [hx] at x0 x1 x2 x3 x4 x5 hcall
      have HX := Aside0.mk hx
      clear Hrd hpx hx
      have p0 := eq_true h0
      have p1 := eq_true hi
      have hw1 : wrap64 (i + 1) = i + 1 := by unfold wrap64; omega
      cases gk with
      | zero => exact absurd HK.out (by omega)
      | succ k1 =>
      cases hq : p x with
      | true =>
        rw [hq] at hcall
        go_wp2_with fail
        refine hcall.mono ?_
        rintro e w' ⟨rfl, hb'⟩
        have HB' := Aside0.mk hb'
        clear hb'
        go_wp2_with fail
        go_ret
        refine ⟨?_, below_step HB.out HB'.out⟩
        have e1 : i = (i.toNat : Int) := by omega
        rw [findI_hit (i := i.toNat) (by omega) (by rw [← e1, HX.out]; exact hq) (fun j hj => HN.out j (by omega)), ← e1]
        rfl
      | false =>
        rw [hq] at hcall
        go_wp2_with fail
        refine hcall.mono ?_
        rintro e w' ⟨rfl, hb'⟩
        have HB' := Aside0.mk hb'
        clear hb'
        go_wp2_with fail
        go_roundg k1
        case measure => have := HK.out; omega
        case rel =>
          refine ⟨i + 1, rfl, ⟨by have := HK.out; omega⟩, ⟨below_step HB.out HB'.out⟩, ⟨fun j hj => ?_⟩⟩
          by_cases e : (j : Int) = i
          · rw [e, HX.out]; exact hq
          · exact HN.out j (by omega)
    · have hlt : decide (i < (l.length : Int)) = false := decide_eq_false hi
      go_wp2_with fail
      go_ret
      refine ⟨?_, HB.out⟩
      rw [findI_miss (fun j hj => HN.out j (by omega))]
      rfl
set_option maxHeartbeats 1000000 in
theorem containsFunc (p : S37 → Bool) (g : Nat) (lb : Array Value) (eg : ∀ args w, (callFunc g args).run Tryd.prog w = .ok (.enter g args) w) (A0 : Option Addr) (c0 : Nat) (l : List S37) (w : World)
    (hr : Kd.C k37 w A0 l.length l) (hl : l.length ≤ 1000000) (hp : PredB g lb p w) :
    Calls Tryd.prog 87 #[.slice A0 l.length c0, .func (.func g) #[] lb] w fun e w' => e = .returned (.bool (l.any p)) ∧ Below w.heap.size w w' := by
  have hi := indexFunc p g lb eg A0 c0 l w hr hl hp
  rw [← findI_any]
  generalize findI p l = r at hi ⊢
  clear hr hl hp eg
  go_enter Tryd.func87, Tryd.ntmps87
  go_wp2_with fail
  refine hi.mono ?_
  rintro e w1 ⟨rfl, hb⟩
  have HB := Aside0.mk hb
  clear hb
  go_wp2_with fail
  go_ret
  exact ⟨rfl, HB.out⟩
/-- Does a link take a part's node? -/
def takes (part node : Int) (x : S37) : Bool := (x.f0 == part && (x.f2.f0 == node || x.f2.f1 == node)) || (x.f1 == part && (x.f3.f0 == node || x.f3.f1 == node))
set_option maxHeartbeats 4000000 in
set_option maxRecDepth 4000 in
theorem takes_walk (part node : Int) (b1 b2 : Nat) (x : S37) (w : World) (h1 : w.cell? ⟨b1, 0, none⟩ = some (.int .i64 part)) (h2 : w.cell? ⟨b2, 0, none⟩ = some (.int .i64 node)) (l1 : b1 < w.heap.size) (l2 : b2 < w.heap.size) :
    Calls Tryd.prog 94 #[val37 x, .pointer (some ⟨b1, 0, none⟩), .pointer (some ⟨b2, 0, none⟩)] w fun e w' => e = .returned (.bool (takes part node x)) ∧ Below w.heap.size w w' := by
  obtain ⟨a, b, ⟨p0, p1⟩, ⟨q0, q1⟩⟩ := x
  obtain ⟨s0, hs0⟩ : ∃ s, s = (a == part && (p0 == node || p1 == node)) := ⟨_, rfl⟩
  obtain ⟨s1, hs1⟩ : ∃ s, s = (b == part && (q0 == node || q1 == node)) := ⟨_, rfl⟩
  have HT : takes part node ⟨a, b, ⟨p0, p1⟩, ⟨q0, q1⟩⟩ = (s0 || s1) := by rw [hs0, hs1]; rfl
  rw [HT]
  clear HT
  have HS0 := Aside0.mk hs0
  have HS1 := Aside0.mk hs1
  have H1 := Aside0.mk h1
  have H2 := Aside0.mk h2
  have L1 := Aside0.mk l1
  have L2 := Aside0.mk l2
  clear hs0 hs1 h1 h2 l1 l2
  go_enter Tryd.func94, Tryd.ntmps94
  go_wp2_with fail
  have HO : Aside0 ((w.alloc (.cells #[.int .i64 a, .int .i64 b, .int .i64 p0, .int .i64 p1, .int .i64 q0, .int .i64 q1] 37)).heap[w.heap.size]? = some (.cells #[.int .i64 a, .int .i64 b, .int .i64 p0, .int .i64 p1, .int .i64 q0, .int .i64 q1] 37)) := ⟨heap_alloc_new _ _⟩
  have HB := Aside0.mk (below_alloc (Below.refl w.heap.size w) (Obj.cells #[.int .i64 a, .int .i64 b, .int .i64 p0, .int .i64 p1, .int .i64 q0, .int .i64 q1] 37))
  generalize w.alloc (Obj.cells #[.int .i64 a, .int .i64 b, .int .i64 p0, .int .i64 p1, .int .i64 q0, .int .i64 q1] 37) = wa at *
  have HX : Aside0 (w.heap.size = w.heap.size) := ⟨rfl⟩
  obtain ⟨bx, hbx⟩ : ∃ bx, bx = w.heap.size := ⟨_, rfl⟩
  rw [← hbx]
  rw [← hbx] at HO
  have HBX := Aside0.mk hbx
  clear hbx HX
  go_loopg [5, 6, 7, 8] 3 (fun kq _ _ _ v8 w' => ∃ k : Nat, v8 = .int .i64 k ∧ Aside0 (kq + k = 3) ∧ Aside0 (k ≤ 2) ∧ Aside0 (Below w.heap.size w w') ∧ Aside0 (w'.heap[bx]? = some (.cells #[.int .i64 a, .int .i64 b, .int .i64 p0, .int .i64 p1, .int .i64 q0, .int .i64 q1] 37)) ∧ Aside0 ((1 ≤ k → s0 = false) ∧ (2 ≤ k → s1 = false)))
  case atStart => exact ⟨0, rfl, ⟨by omega⟩, ⟨by omega⟩, HB, HO, ⟨fun h => absurd h (by omega), fun h => absurd h (by omega)⟩⟩
  case round =>
    obtain ⟨k, rfl, HK, HK2, HB', HO', HF⟩ := hrel
    have x0 : wr.cell? ⟨bx, 0, none⟩ = some (.int .i64 a) := (blk_cell HO'.out 0).trans rfl
    have x1 : wr.cell? ⟨bx, 1, none⟩ = some (.int .i64 b) := (blk_cell HO'.out 1).trans rfl
    have x2 : wr.cell? ⟨bx, 2, none⟩ = some (.int .i64 p0) := (blk_cell HO'.out 2).trans rfl
    have x3 : wr.cell? ⟨bx, 3, none⟩ = some (.int .i64 p1) := (blk_cell HO'.out 3).trans rfl
    have x4 : wr.cell? ⟨bx, 4, none⟩ = some (.int .i64 q0) := (blk_cell HO'.out 4).trans rfl
    have x5 : wr.cell? ⟨bx, 5, none⟩ = some (.int .i64 q1) := (blk_cell HO'.out 5).trans rfl
    have y1 : wr.cell? ⟨b1, 0, none⟩ = some (.int .i64 part) := (HB'.out.cell (p := ⟨b1, 0, none⟩) L1.out).trans H1.out
    have y2 : wr.cell? ⟨b2, 0, none⟩ = some (.int .i64 node) := (HB'.out.cell (p := ⟨b2, 0, none⟩) L2.out).trans H2.out
    have HLx := Aside0.mk (blk_lt HO'.out)
    have HL1 := Aside0.mk (Nat.lt_of_lt_of_le L1.out HB'.out.size)
    have HL2 := Aside0.mk (Nat.lt_of_lt_of_le L2.out HB'.out.size)
    cases gk with
    | zero => exact absurd HK.out (by have := HK2.out; omega)
    | succ k1 =>
    rcases (show k = 0 ∨ k = 1 ∨ k = 2 from by have := HK2.out; omega) with e | e | e
    · subst e
      cases ha : (a == part) with
      | false =>
        go_wp2_with fail
        refine (plan_end.calls a b p0 p1 q0 q1 0 a p0 p1 _ rfl).mono ?_
        rintro e w1 ⟨rfl, hb⟩
        have z1 : w1.cell? ⟨b1, 0, none⟩ = some (.int .i64 part) := (hb.cell (p := ⟨b1, 0, none⟩) HL1.out).trans y1
        have z2 : w1.cell? ⟨b2, 0, none⟩ = some (.int .i64 node) := (hb.cell (p := ⟨b2, 0, none⟩) HL2.out).trans y2
        have zO := Aside0.mk ((hb.block bx HLx.out).trans HO'.out)
        have HB1 := Aside0.mk (below_step HB'.out hb)
        have hn1 : w1.heap.size ≠ b1 := by have := HL1.out; have := hb.size; omega
        have hn2 : w1.heap.size ≠ b2 := by have := HL2.out; have := hb.size; omega
        have hm1 : b1 ≠ w1.heap.size := Ne.symm hn1
        have hm2 : b2 ≠ w1.heap.size := Ne.symm hn2
        have LL1 : b1 < w1.heap.size := by have := HL1.out; have := hb.size; omega
        have LL2 : b2 < w1.heap.size := by have := HL2.out; have := hb.size; omega
        have LLx := Aside0.mk (show bx < w1.heap.size by have := HLx.out; have := hb.size; omega)
        clear hb x0 x1 x2 x3 x4 x5 y1 y2
        go_wp2_with fail
        go_roundg k1
        case measure => have := HK.out; omega
        case rel => exact ⟨1, rfl, ⟨by have := HK.out; omega⟩, ⟨by omega⟩, ⟨by repeat (first | exact HB1.out | apply below_alloc | refine Below.setCell ?_ HB1.out.size _)⟩, ⟨((below_alloc (Below.refl w1.heap.size w1) _).block bx LLx.out).trans zO.out⟩, ⟨fun _ => by rw [HS0.out, ha]; rfl, fun h => absurd h (by omega)⟩⟩
      | true =>
        cases hp0 : (p0 == node) with
        | true =>
          go_wp2_with fail
          refine (plan_end.calls a b p0 p1 q0 q1 0 a p0 p1 _ rfl).mono ?_
          rintro e w1 ⟨rfl, hb⟩
          have z1 : w1.cell? ⟨b1, 0, none⟩ = some (.int .i64 part) := (hb.cell (p := ⟨b1, 0, none⟩) HL1.out).trans y1
          have z2 : w1.cell? ⟨b2, 0, none⟩ = some (.int .i64 node) := (hb.cell (p := ⟨b2, 0, none⟩) HL2.out).trans y2
          have zO := Aside0.mk ((hb.block bx HLx.out).trans HO'.out)
          have HB1 := Aside0.mk (below_step HB'.out hb)
          have hn1 : w1.heap.size ≠ b1 := by have := HL1.out; have := hb.size; omega
          have hn2 : w1.heap.size ≠ b2 := by have := HL2.out; have := hb.size; omega
          have hm1 : b1 ≠ w1.heap.size := Ne.symm hn1
          have hm2 : b2 ≠ w1.heap.size := Ne.symm hn2
          have LL1 : b1 < w1.heap.size := by have := HL1.out; have := hb.size; omega
          have LL2 : b2 < w1.heap.size := by have := HL2.out; have := hb.size; omega
          have LLx := Aside0.mk (show bx < w1.heap.size by have := HLx.out; have := hb.size; omega)
          clear hb x0 x1 x2 x3 x4 x5 y1 y2
          go_wp2_with fail
          go_ret
          rw [show s0 = true by rw [HS0.out]; simp only [ha, hp0, Bool.true_or]; rfl]
          exact ⟨rfl, by repeat (first | exact HB1.out | apply below_alloc | refine Below.setCell ?_ HB1.out.size _)⟩
        | false =>
          cases hp1 : (p1 == node) with
          | true =>
            go_wp2_with fail
            refine (plan_end.calls a b p0 p1 q0 q1 0 a p0 p1 _ rfl).mono ?_
            rintro e w1 ⟨rfl, hb⟩
            have z1 : w1.cell? ⟨b1, 0, none⟩ = some (.int .i64 part) := (hb.cell (p := ⟨b1, 0, none⟩) HL1.out).trans y1
            have z2 : w1.cell? ⟨b2, 0, none⟩ = some (.int .i64 node) := (hb.cell (p := ⟨b2, 0, none⟩) HL2.out).trans y2
            have zO := Aside0.mk ((hb.block bx HLx.out).trans HO'.out)
            have HB1 := Aside0.mk (below_step HB'.out hb)
            have hn1 : w1.heap.size ≠ b1 := by have := HL1.out; have := hb.size; omega
            have hn2 : w1.heap.size ≠ b2 := by have := HL2.out; have := hb.size; omega
            have hm1 : b1 ≠ w1.heap.size := Ne.symm hn1
            have hm2 : b2 ≠ w1.heap.size := Ne.symm hn2
            have LL1 : b1 < w1.heap.size := by have := HL1.out; have := hb.size; omega
            have LL2 : b2 < w1.heap.size := by have := HL2.out; have := hb.size; omega
            have LLx := Aside0.mk (show bx < w1.heap.size by have := HLx.out; have := hb.size; omega)
            clear hb x0 x1 x2 x3 x4 x5 y1 y2
            go_wp2_with fail
            go_ret
            rw [show s0 = true by rw [HS0.out]; simp only [ha, hp0, hp1]; rfl]
            exact ⟨rfl, by repeat (first | exact HB1.out | apply below_alloc | refine Below.setCell ?_ HB1.out.size _)⟩
          | false =>
            go_wp2_with fail
            refine (plan_end.calls a b p0 p1 q0 q1 0 a p0 p1 _ rfl).mono ?_
            rintro e w1 ⟨rfl, hb⟩
            have z1 : w1.cell? ⟨b1, 0, none⟩ = some (.int .i64 part) := (hb.cell (p := ⟨b1, 0, none⟩) HL1.out).trans y1
            have z2 : w1.cell? ⟨b2, 0, none⟩ = some (.int .i64 node) := (hb.cell (p := ⟨b2, 0, none⟩) HL2.out).trans y2
            have zO := Aside0.mk ((hb.block bx HLx.out).trans HO'.out)
            have HB1 := Aside0.mk (below_step HB'.out hb)
            have hn1 : w1.heap.size ≠ b1 := by have := HL1.out; have := hb.size; omega
            have hn2 : w1.heap.size ≠ b2 := by have := HL2.out; have := hb.size; omega
            have hm1 : b1 ≠ w1.heap.size := Ne.symm hn1
            have hm2 : b2 ≠ w1.heap.size := Ne.symm hn2
            have LL1 : b1 < w1.heap.size := by have := HL1.out; have := hb.size; omega
            have LL2 : b2 < w1.heap.size := by have := HL2.out; have := hb.size; omega
            have LLx := Aside0.mk (show bx < w1.heap.size by have := HLx.out; have := hb.size; omega)
            clear hb x0 x1 x2 x3 x4 x5 y1 y2
            go_wp2_with fail
            go_roundg k1
            case measure => have := HK.out; omega
            case rel => exact ⟨1, rfl, ⟨by have := HK.out; omega⟩, ⟨by omega⟩, ⟨by repeat (first | exact HB1.out | apply below_alloc | refine Below.setCell ?_ HB1.out.size _)⟩, ⟨((below_alloc (Below.refl w1.heap.size w1) _).block bx LLx.out).trans zO.out⟩, ⟨fun _ => by rw [HS0.out]; simp only [ha, hp0, hp1]; rfl, fun h => absurd h (by omega)⟩⟩
    · subst e
      cases hb : (b == part) with
      | false =>
        go_wp2_with fail
        refine (plan_end.calls a b p0 p1 q0 q1 1 b q0 q1 _ rfl).mono ?_
        rintro e w1 ⟨rfl, hb⟩
        have z1 : w1.cell? ⟨b1, 0, none⟩ = some (.int .i64 part) := (hb.cell (p := ⟨b1, 0, none⟩) HL1.out).trans y1
        have z2 : w1.cell? ⟨b2, 0, none⟩ = some (.int .i64 node) := (hb.cell (p := ⟨b2, 0, none⟩) HL2.out).trans y2
        have zO := Aside0.mk ((hb.block bx HLx.out).trans HO'.out)
        have HB1 := Aside0.mk (below_step HB'.out hb)
        have hn1 : w1.heap.size ≠ b1 := by have := HL1.out; have := hb.size; omega
        have hn2 : w1.heap.size ≠ b2 := by have := HL2.out; have := hb.size; omega
        have hm1 : b1 ≠ w1.heap.size := Ne.symm hn1
        have hm2 : b2 ≠ w1.heap.size := Ne.symm hn2
        have LL1 : b1 < w1.heap.size := by have := HL1.out; have := hb.size; omega
        have LL2 : b2 < w1.heap.size := by have := HL2.out; have := hb.size; omega
        have LLx := Aside0.mk (show bx < w1.heap.size by have := HLx.out; have := hb.size; omega)
        clear hb x0 x1 x2 x3 x4 x5 y1 y2
        go_wp2_with fail
        go_roundg k1
        case measure => have := HK.out; omega
        case rel => exact ⟨2, rfl, ⟨by have := HK.out; omega⟩, ⟨by omega⟩, ⟨by repeat (first | exact HB1.out | apply below_alloc | refine Below.setCell ?_ HB1.out.size _)⟩, ⟨((below_alloc (Below.refl w1.heap.size w1) _).block bx LLx.out).trans zO.out⟩, ⟨fun _ => HF.out.1 (by omega), fun _ => by rw [HS1.out, hb]; rfl⟩⟩
      | true =>
        cases hq0 : (q0 == node) with
        | true =>
          go_wp2_with fail
          refine (plan_end.calls a b p0 p1 q0 q1 1 b q0 q1 _ rfl).mono ?_
          rintro e w1 ⟨rfl, hb⟩
          have z1 : w1.cell? ⟨b1, 0, none⟩ = some (.int .i64 part) := (hb.cell (p := ⟨b1, 0, none⟩) HL1.out).trans y1
          have z2 : w1.cell? ⟨b2, 0, none⟩ = some (.int .i64 node) := (hb.cell (p := ⟨b2, 0, none⟩) HL2.out).trans y2
          have zO := Aside0.mk ((hb.block bx HLx.out).trans HO'.out)
          have HB1 := Aside0.mk (below_step HB'.out hb)
          have hn1 : w1.heap.size ≠ b1 := by have := HL1.out; have := hb.size; omega
          have hn2 : w1.heap.size ≠ b2 := by have := HL2.out; have := hb.size; omega
          have hm1 : b1 ≠ w1.heap.size := Ne.symm hn1
          have hm2 : b2 ≠ w1.heap.size := Ne.symm hn2
          have LL1 : b1 < w1.heap.size := by have := HL1.out; have := hb.size; omega
          have LL2 : b2 < w1.heap.size := by have := HL2.out; have := hb.size; omega
          have LLx := Aside0.mk (show bx < w1.heap.size by have := HLx.out; have := hb.size; omega)
          clear hb x0 x1 x2 x3 x4 x5 y1 y2
          go_wp2_with fail
          go_ret
          rw [show s1 = true by rw [HS1.out]; simp only [hb, hq0, Bool.true_or]; rfl]
          exact ⟨by cases s0 <;> rfl, by repeat (first | exact HB1.out | apply below_alloc | refine Below.setCell ?_ HB1.out.size _)⟩
        | false =>
          cases hq1 : (q1 == node) with
          | true =>
            go_wp2_with fail
            refine (plan_end.calls a b p0 p1 q0 q1 1 b q0 q1 _ rfl).mono ?_
            rintro e w1 ⟨rfl, hb⟩
            have z1 : w1.cell? ⟨b1, 0, none⟩ = some (.int .i64 part) := (hb.cell (p := ⟨b1, 0, none⟩) HL1.out).trans y1
            have z2 : w1.cell? ⟨b2, 0, none⟩ = some (.int .i64 node) := (hb.cell (p := ⟨b2, 0, none⟩) HL2.out).trans y2
            have zO := Aside0.mk ((hb.block bx HLx.out).trans HO'.out)
            have HB1 := Aside0.mk (below_step HB'.out hb)
            have hn1 : w1.heap.size ≠ b1 := by have := HL1.out; have := hb.size; omega
            have hn2 : w1.heap.size ≠ b2 := by have := HL2.out; have := hb.size; omega
            have hm1 : b1 ≠ w1.heap.size := Ne.symm hn1
            have hm2 : b2 ≠ w1.heap.size := Ne.symm hn2
            have LL1 : b1 < w1.heap.size := by have := HL1.out; have := hb.size; omega
            have LL2 : b2 < w1.heap.size := by have := HL2.out; have := hb.size; omega
            have LLx := Aside0.mk (show bx < w1.heap.size by have := HLx.out; have := hb.size; omega)
            clear hb x0 x1 x2 x3 x4 x5 y1 y2
            go_wp2_with fail
            go_ret
            rw [show s1 = true by rw [HS1.out]; simp only [hb, hq0, hq1]; rfl]
            exact ⟨by cases s0 <;> rfl, by repeat (first | exact HB1.out | apply below_alloc | refine Below.setCell ?_ HB1.out.size _)⟩
          | false =>
            go_wp2_with fail
            refine (plan_end.calls a b p0 p1 q0 q1 1 b q0 q1 _ rfl).mono ?_
            rintro e w1 ⟨rfl, hb⟩
            have z1 : w1.cell? ⟨b1, 0, none⟩ = some (.int .i64 part) := (hb.cell (p := ⟨b1, 0, none⟩) HL1.out).trans y1
            have z2 : w1.cell? ⟨b2, 0, none⟩ = some (.int .i64 node) := (hb.cell (p := ⟨b2, 0, none⟩) HL2.out).trans y2
            have zO := Aside0.mk ((hb.block bx HLx.out).trans HO'.out)
            have HB1 := Aside0.mk (below_step HB'.out hb)
            have hn1 : w1.heap.size ≠ b1 := by have := HL1.out; have := hb.size; omega
            have hn2 : w1.heap.size ≠ b2 := by have := HL2.out; have := hb.size; omega
            have hm1 : b1 ≠ w1.heap.size := Ne.symm hn1
            have hm2 : b2 ≠ w1.heap.size := Ne.symm hn2
            have LL1 : b1 < w1.heap.size := by have := HL1.out; have := hb.size; omega
            have LL2 : b2 < w1.heap.size := by have := HL2.out; have := hb.size; omega
            have LLx := Aside0.mk (show bx < w1.heap.size by have := HLx.out; have := hb.size; omega)
            clear hb x0 x1 x2 x3 x4 x5 y1 y2
            go_wp2_with fail
            go_roundg k1
            case measure => have := HK.out; omega
            case rel => exact ⟨2, rfl, ⟨by have := HK.out; omega⟩, ⟨by omega⟩, ⟨by repeat (first | exact HB1.out | apply below_alloc | refine Below.setCell ?_ HB1.out.size _)⟩, ⟨((below_alloc (Below.refl w1.heap.size w1) _).block bx LLx.out).trans zO.out⟩, ⟨fun _ => HF.out.1 (by omega), fun _ => by rw [HS1.out]; simp only [hb, hq0, hq1]; rfl⟩⟩
    · subst e
      go_wp2_with fail
      go_ret
      rw [HF.out.1 (by omega), HF.out.2 (by omega)]
      exact ⟨rfl, HB'.out⟩
theorem makeFunc_run (fn : Fn) (first cap : Array Value) (w : World) : (Instr.makeFunc fn first cap).run Tryd.prog w = .ok (.func fn first cap) w := rfl
set_option maxHeartbeats 1000000 in
set_option maxRecDepth 4000 in
theorem taken_walk (A0 : Option Addr) (c0 : Nat) (l : List S37) (part node : Int) (w : World) (hr : Kd.C k37 w A0 l.length l) (hl : l.length ≤ 1000000) :
    Calls Tryd.prog 93 #[.slice A0 l.length c0, .int .i64 part, .int .i64 node] w fun e w' => e = .returned (.bool (l.any (takes part node))) ∧ Below w.heap.size w w' := by
  have hb0 := below_alloc (below_alloc (Below.refl w.heap.size w) (Obj.cells #[.int .i64 part] 3)) (Obj.cells #[.int .i64 node] 3)
  have e1 : ((w.alloc (Obj.cells #[.int .i64 part] 3)).alloc (Obj.cells #[.int .i64 node] 3)).cell? ⟨w.heap.size, 0, none⟩ = some (.int .i64 part) := by simp
  have e2 : ((w.alloc (Obj.cells #[.int .i64 part] 3)).alloc (Obj.cells #[.int .i64 node] 3)).cell? ⟨w.heap.size + 1, 0, none⟩ = some (.int .i64 node) := by simp
  have s2 : ((w.alloc (Obj.cells #[.int .i64 part] 3)).alloc (Obj.cells #[.int .i64 node] 3)).heap.size = w.heap.size + 1 + 1 := by simp
  have hcall := containsFunc (takes part node) 94 #[.pointer (some ⟨w.heap.size, 0, none⟩), .pointer (some ⟨w.heap.size + 1, 0, none⟩)] (entersT Tryd.func94 (by kernel_rfl) rfl) A0 c0 l _ (Kd.C_below hr hb0) hl (fun W x hW => by
    refine takes_walk part node w.heap.size (w.heap.size + 1) x W ((hW.cell (p := ⟨w.heap.size, 0, none⟩) (by rw [s2]; show w.heap.size < _; omega)).trans e1) ((hW.cell (p := ⟨w.heap.size + 1, 0, none⟩) (by rw [s2]; show w.heap.size + 1 < _; omega)).trans e2) ?_ ?_
    · have := hW.size; omega
    · have := hW.size; omega)
  generalize l.any (takes part node) = r at hcall ⊢
  have HB0 := Aside0.mk hb0
  clear hr hl e1 e2 s2 hb0
  go_enter Tryd.func93, Tryd.ntmps93
  go_wp2_with fail
  refine hcall.mono ?_
  rintro e w1 ⟨rfl, hb⟩
  have HB := Aside0.mk (below_step HB0.out hb)
  clear hb
  go_wp2_with fail
  go_ret
  exact ⟨rfl, HB.out⟩
end Go.Proofs.YtkhlndhleiaokaaDoor.MHo
set_option linter.unusedVariables false
set_option linter.unusedSimpArgs false
namespace Go.Proofs.YtkhlndhleiaokaaDoor.MHo
open Go.RowKit Go.Proofs.YtkhlndhleiaokaaDoorW.PrintWords Go.Proofs.YtkhlndhleiaokaaDoorW.PrintLast Go.Proofs.YtkhlndhleiaokaaDoorW.PrintMore
theorem idx_yes (a0 a1 : Int) (w : World) (h0 : 0 ≤ a0) (h1 : a0 < a1) : Calls Tryd.prog 86 #[.int .i64 a0, .int .i64 a1] w fun e w' => e = .returned (.bool true) ∧ Below w.heap.size w w' :=
  (plan_index.calls a0 a1 true w (by unfold plan_index.f; rw [if_pos h0, decide_eq_true h1])).mono fun e w' h => ⟨h.1, h.2.below⟩
/-- An end of a link that may be: its part is one, and its two ports are nodes that no link ahead takes. -/
structure SideOk (P : List S60) (T : List S37) (part : Int) (p : S35) : Prop where
  ne : (p.f0 == p.f1) = false
  part0 : 0 ≤ part
  part1 : part < P.length
  n0 : 0 ≤ p.f0
  n1 : p.f0 < (rd_T60 P part).f0
  m0 : 0 ≤ p.f1
  m1 : p.f1 < (rd_T60 P part).f0
  t0 : T.any (takes part p.f0) = false
  t1 : T.any (takes part p.f1) = false
theorem taken_no (A1 : Option Addr) (c1 : Nat) (L : List S37) (i part node : Int) (w : World) (hr : Kd.C k37 w A1 L.length L) (hl : L.length ≤ 1000) (h0 : 0 ≤ i) (h1 : i ≤ L.length) (ht : (L.take i.toNat).any (takes part node) = false) :
    Calls Tryd.prog 93 #[.slice A1 i.toNat c1, .int .i64 part, .int .i64 node] w fun e w' => e = .returned (.bool false) ∧ Below w.heap.size w w' := by
  have hlen : (L.take i.toNat).length = i.toNat := by rw [List.length_take]; omega
  have h := taken_walk A1 c1 (L.take i.toNat) part node w (by exact Kd.C_take hr (show i.toNat ≤ L.length by omega)) (by rw [hlen]; omega)
  rw [hlen, ht] at h
  exact h
set_option maxHeartbeats 8000000 in
set_option maxRecDepth 4000 in
theorem ports_yes (A0 : Option Addr) (c0 : Nat) (P : List S60) (A1 : Option Addr) (c1 : Nat) (L : List S37) (a2 a3 a4 a5 a6 a7 a8 a9 a10 a11 a12 : Int) (i : Int) (x : S37) (w : World) (hr0 : Kd.C k60 w A0 P.length P) (hc0 : P.length ≤ c0) (hr1 : Kd.C k37 w A1 L.length L) (hc1 : L.length ≤ c1) (hL : L.length ≤ 1000) (hi0 : 0 ≤ i) (hi1 : i < L.length) (hx : rd_T37 L i = x)
    (hs0 : SideOk P (L.take i.toNat) x.f0 x.f2) (hs1 : SideOk P (L.take i.toNat) x.f1 x.f3) :
    Calls Tryd.prog 89 #[.agg #[.slice A0 P.length c0, .slice A1 L.length c1, .int .i64 a2, .int .i64 a3, .int .i64 a4, .int .i64 a5, .int .i64 a6, .int .i64 a7, .int .i64 a8, .int .i64 a9, .int .i64 a10, .int .i64 a11, .int .i64 a12], .int .i64 i] w fun e w' => e = .returned (.bool true) ∧ Below w.heap.size w w' := by
  have HR0 := Aside0.mk hr0
  have HR1 := Aside0.mk hr1
  have HC0 := Aside0.mk hc0
  have HC1 := Aside0.mk hc1
  have HS0 := Aside0.mk hs0
  have HS1 := Aside0.mk hs1
  have HX := Aside0.mk hx
  have HL := Aside0.mk hL
  have hic : i ≤ (c1 : Int) := by omega
  clear hr0 hr1 hc0 hc1 hs0 hs1 hx hL
  obtain ⟨ad1, e1, _⟩ := at_T37 HR1.out i hi0 hi1
  obtain ⟨ad0, e0, _⟩ := at_T60 HR0.out x.f0 HS0.out.part0 HS0.out.part1
  subst e0
  subst e1
  obtain ⟨a, b, ⟨p0, p1⟩, ⟨q0, q1⟩⟩ := x
  have p0_ := eq_true hi0
  have p1_ := eq_true hi1
  go_enter Tryd.func89, Tryd.ntmps89
  go_wp2_with fail
  have HO : Aside0 ((w.alloc (.cells #[.slice (some ad0) P.length c0, .slice (some ad1) L.length c1, .int .i64 a2, .int .i64 a3, .int .i64 a4, .int .i64 a5, .int .i64 a6, .int .i64 a7, .int .i64 a8, .int .i64 a9, .int .i64 a10, .int .i64 a11, .int .i64 a12] 25)).heap[w.heap.size]? = some (.cells #[.slice (some ad0) P.length c0, .slice (some ad1) L.length c1, .int .i64 a2, .int .i64 a3, .int .i64 a4, .int .i64 a5, .int .i64 a6, .int .i64 a7, .int .i64 a8, .int .i64 a9, .int .i64 a10, .int .i64 a11, .int .i64 a12] 25)) := ⟨heap_alloc_new _ _⟩
  have HB := Aside0.mk (below_alloc (Below.refl w.heap.size w) (Obj.cells #[.slice (some ad0) P.length c0, .slice (some ad1) L.length c1, .int .i64 a2, .int .i64 a3, .int .i64 a4, .int .i64 a5, .int .i64 a6, .int .i64 a7, .int .i64 a8, .int .i64 a9, .int .i64 a10, .int .i64 a11, .int .i64 a12] 25))
  generalize w.alloc (Obj.cells #[.slice (some ad0) P.length c0, .slice (some ad1) L.length c1, .int .i64 a2, .int .i64 a3, .int .i64 a4, .int .i64 a5, .int .i64 a6, .int .i64 a7, .int .i64 a8, .int .i64 a9, .int .i64 a10, .int .i64 a11, .int .i64 a12] 25) = wa at *
  obtain ⟨bx, hbx⟩ : ∃ bx, bx = w.heap.size := ⟨_, rfl⟩
  rw [← hbx]
  rw [← hbx] at HO
  have HBX := Aside0.mk hbx
  clear hbx
  go_loopg [10] 3 (fun kq v10 w' => ∃ k : Nat, v10 = .int .i64 k ∧ Aside0 (kq + k = 3) ∧ Aside0 (k ≤ 2) ∧ Aside0 (Below w.heap.size w w') ∧ Aside0 (w'.heap[bx]? = some (.cells #[.slice (some ad0) P.length c0, .slice (some ad1) L.length c1, .int .i64 a2, .int .i64 a3, .int .i64 a4, .int .i64 a5, .int .i64 a6, .int .i64 a7, .int .i64 a8, .int .i64 a9, .int .i64 a10, .int .i64 a11, .int .i64 a12] 25)))
  case atStart => exact ⟨0, rfl, ⟨by omega⟩, ⟨by omega⟩, HB, HO⟩
  case round =>
    clear HO HB
    obtain ⟨k, rfl, HK, HK2, HB, HO⟩ := hrel
    cases gk with
    | zero => exact absurd HK.out (by have := HK2.out; omega)
    | succ k1 =>
    rcases (show k = 0 ∨ k = 1 ∨ k = 2 from by have := HK2.out; omega) with e | e | e
    · subst e
      have x0 : wr.cell? ⟨bx, 0, none⟩ = some (.slice (some ad0) P.length c0) := (blk_cell HO.out 0).trans rfl
      have x1 : wr.cell? ⟨bx, 1, none⟩ = some (.slice (some ad1) L.length c1) := (blk_cell HO.out 1).trans rfl
      have x2 : wr.cell? ⟨bx, 2, none⟩ = some (.int .i64 a2) := (blk_cell HO.out 2).trans rfl
      have x3 : wr.cell? ⟨bx, 3, none⟩ = some (.int .i64 a3) := (blk_cell HO.out 3).trans rfl
      have x4 : wr.cell? ⟨bx, 4, none⟩ = some (.int .i64 a4) := (blk_cell HO.out 4).trans rfl
      have x5 : wr.cell? ⟨bx, 5, none⟩ = some (.int .i64 a5) := (blk_cell HO.out 5).trans rfl
      have x6 : wr.cell? ⟨bx, 6, none⟩ = some (.int .i64 a6) := (blk_cell HO.out 6).trans rfl
      have x7 : wr.cell? ⟨bx, 7, none⟩ = some (.int .i64 a7) := (blk_cell HO.out 7).trans rfl
      have x8 : wr.cell? ⟨bx, 8, none⟩ = some (.int .i64 a8) := (blk_cell HO.out 8).trans rfl
      have x9 : wr.cell? ⟨bx, 9, none⟩ = some (.int .i64 a9) := (blk_cell HO.out 9).trans rfl
      have x10 : wr.cell? ⟨bx, 10, none⟩ = some (.int .i64 a10) := (blk_cell HO.out 10).trans rfl
      have x11 : wr.cell? ⟨bx, 11, none⟩ = some (.int .i64 a11) := (blk_cell HO.out 11).trans rfl
      have x12 : wr.cell? ⟨bx, 12, none⟩ = some (.int .i64 a12) := (blk_cell HO.out 12).trans rfl
      obtain ⟨ad', e1, y0, y1, y2, y3, y4, y5⟩ := at_T37 (Kd.C_below HR1.out HB.out) i hi0 hi1
      have e1' := Option.some.inj e1
      subst e1'
      clear e1
      rw [HX.out] at y0 y1 y2 y3 y4 y5
      dsimp only at y0 y1 y2 y3 y4 y5
      have hne := HS0.out.ne
      dsimp only at hne
      go_wp2_with fail
      refine (plan_end.calls a b p0 p1 q0 q1 0 a p0 p1 _ rfl).mono ?_
      rintro e w1 ⟨rfl, hb⟩
      clear x0 x1 x2 x3 x4 x5 x6 x7 x8 x9 x10 x11 x12 y0 y1 y2 y3 y4 y5
      have HB1 := Aside0.mk (below_step HB.out hb)
      have HO1 := Aside0.mk ((hb.block bx (blk_lt HO.out)).trans HO.out)
      clear hb
      have x0 : w1.cell? ⟨bx, 0, none⟩ = some (.slice (some ad0) P.length c0) := (blk_cell HO1.out 0).trans rfl
      have x1 : w1.cell? ⟨bx, 1, none⟩ = some (.slice (some ad1) L.length c1) := (blk_cell HO1.out 1).trans rfl
      have x2 : w1.cell? ⟨bx, 2, none⟩ = some (.int .i64 a2) := (blk_cell HO1.out 2).trans rfl
      have x3 : w1.cell? ⟨bx, 3, none⟩ = some (.int .i64 a3) := (blk_cell HO1.out 3).trans rfl
      have x4 : w1.cell? ⟨bx, 4, none⟩ = some (.int .i64 a4) := (blk_cell HO1.out 4).trans rfl
      have x5 : w1.cell? ⟨bx, 5, none⟩ = some (.int .i64 a5) := (blk_cell HO1.out 5).trans rfl
      have x6 : w1.cell? ⟨bx, 6, none⟩ = some (.int .i64 a6) := (blk_cell HO1.out 6).trans rfl
      have x7 : w1.cell? ⟨bx, 7, none⟩ = some (.int .i64 a7) := (blk_cell HO1.out 7).trans rfl
      have x8 : w1.cell? ⟨bx, 8, none⟩ = some (.int .i64 a8) := (blk_cell HO1.out 8).trans rfl
      have x9 : w1.cell? ⟨bx, 9, none⟩ = some (.int .i64 a9) := (blk_cell HO1.out 9).trans rfl
      have x10 : w1.cell? ⟨bx, 10, none⟩ = some (.int .i64 a10) := (blk_cell HO1.out 10).trans rfl
      have x11 : w1.cell? ⟨bx, 11, none⟩ = some (.int .i64 a11) := (blk_cell HO1.out 11).trans rfl
      have x12 : w1.cell? ⟨bx, 12, none⟩ = some (.int .i64 a12) := (blk_cell HO1.out 12).trans rfl
      go_wp2_with fail
      have HB2 := Aside0.mk (below_alloc HB1.out (Obj.cells #[.int .i64 p0, .int .i64 p1] 35))
      have HO2 := Aside0.mk (((below_alloc (Below.refl w1.heap.size w1) (Obj.cells #[.int .i64 p0, .int .i64 p1] 35)).block bx (blk_lt HO1.out)).trans HO1.out)
      clear x0 x1 x2 x3 x4 x5 x6 x7 x8 x9 x10 x11 x12
      generalize w1.alloc (Obj.cells #[.int .i64 p0, .int .i64 p1] 35) = w2 at *
      have hq0 := HS0.out.part0
      have hq1 := HS0.out.part1
      have hq0_ := eq_true hq0
      have hq1_ := eq_true hq1
      have ix0 : ∀ w : World, (Instr.index 35 (.agg #[.int .i64 p0, .int .i64 p1]) (.int .i64 0)).run Tryd.prog w = .ok (.int .i64 p0) w := fun _ => by kernel_rfl
      have ix1 : ∀ w : World, (Instr.index 35 (.agg #[.int .i64 p0, .int .i64 p1]) (.int .i64 1)).run Tryd.prog w = .ok (.int .i64 p1) w := fun _ => by kernel_rfl
      refine wp_loop_rounds 3 ?_
      rw [rounds_succ]
      have x0 : w2.cell? ⟨bx, 0, none⟩ = some (.slice (some ad0) P.length c0) := (blk_cell HO2.out 0).trans rfl
      have x1 : w2.cell? ⟨bx, 1, none⟩ = some (.slice (some ad1) L.length c1) := (blk_cell HO2.out 1).trans rfl
      have x2 : w2.cell? ⟨bx, 2, none⟩ = some (.int .i64 a2) := (blk_cell HO2.out 2).trans rfl
      have x3 : w2.cell? ⟨bx, 3, none⟩ = some (.int .i64 a3) := (blk_cell HO2.out 3).trans rfl
      have x4 : w2.cell? ⟨bx, 4, none⟩ = some (.int .i64 a4) := (blk_cell HO2.out 4).trans rfl
      have x5 : w2.cell? ⟨bx, 5, none⟩ = some (.int .i64 a5) := (blk_cell HO2.out 5).trans rfl
      have x6 : w2.cell? ⟨bx, 6, none⟩ = some (.int .i64 a6) := (blk_cell HO2.out 6).trans rfl
      have x7 : w2.cell? ⟨bx, 7, none⟩ = some (.int .i64 a7) := (blk_cell HO2.out 7).trans rfl
      have x8 : w2.cell? ⟨bx, 8, none⟩ = some (.int .i64 a8) := (blk_cell HO2.out 8).trans rfl
      have x9 : w2.cell? ⟨bx, 9, none⟩ = some (.int .i64 a9) := (blk_cell HO2.out 9).trans rfl
      have x10 : w2.cell? ⟨bx, 10, none⟩ = some (.int .i64 a10) := (blk_cell HO2.out 10).trans rfl
      have x11 : w2.cell? ⟨bx, 11, none⟩ = some (.int .i64 a11) := (blk_cell HO2.out 11).trans rfl
      have x12 : w2.cell? ⟨bx, 12, none⟩ = some (.int .i64 a12) := (blk_cell HO2.out 12).trans rfl
      obtain ⟨ad', e0, z0, z1⟩ := at_T60 (Kd.C_below HR0.out HB2.out) a hq0 hq1
      have e0' := Option.some.inj e0
      subst e0'
      clear e0
      go_wp2_with fail
      refine (idx_yes _ _ _ HS0.out.n0 HS0.out.n1).mono ?_
      rintro e w3 ⟨rfl, hb⟩
      clear x0 x1 x2 x3 x4 x5 x6 x7 x8 x9 x10 x11 x12 z0 z1
      have HB3 := Aside0.mk (below_step HB2.out hb)
      have HO3 := Aside0.mk ((hb.block bx (blk_lt HO2.out)).trans HO2.out)
      clear hb
      have x0 : w3.cell? ⟨bx, 0, none⟩ = some (.slice (some ad0) P.length c0) := (blk_cell HO3.out 0).trans rfl
      have x1 : w3.cell? ⟨bx, 1, none⟩ = some (.slice (some ad1) L.length c1) := (blk_cell HO3.out 1).trans rfl
      have x2 : w3.cell? ⟨bx, 2, none⟩ = some (.int .i64 a2) := (blk_cell HO3.out 2).trans rfl
      have x3 : w3.cell? ⟨bx, 3, none⟩ = some (.int .i64 a3) := (blk_cell HO3.out 3).trans rfl
      have x4 : w3.cell? ⟨bx, 4, none⟩ = some (.int .i64 a4) := (blk_cell HO3.out 4).trans rfl
      have x5 : w3.cell? ⟨bx, 5, none⟩ = some (.int .i64 a5) := (blk_cell HO3.out 5).trans rfl
      have x6 : w3.cell? ⟨bx, 6, none⟩ = some (.int .i64 a6) := (blk_cell HO3.out 6).trans rfl
      have x7 : w3.cell? ⟨bx, 7, none⟩ = some (.int .i64 a7) := (blk_cell HO3.out 7).trans rfl
      have x8 : w3.cell? ⟨bx, 8, none⟩ = some (.int .i64 a8) := (blk_cell HO3.out 8).trans rfl
      have x9 : w3.cell? ⟨bx, 9, none⟩ = some (.int .i64 a9) := (blk_cell HO3.out 9).trans rfl
      have x10 : w3.cell? ⟨bx, 10, none⟩ = some (.int .i64 a10) := (blk_cell HO3.out 10).trans rfl
      have x11 : w3.cell? ⟨bx, 11, none⟩ = some (.int .i64 a11) := (blk_cell HO3.out 11).trans rfl
      have x12 : w3.cell? ⟨bx, 12, none⟩ = some (.int .i64 a12) := (blk_cell HO3.out 12).trans rfl
      go_wp2_with fail
      refine (taken_no _ c1 L i a p0 _ (Kd.C_below HR1.out HB3.out) HL.out hi0 (by omega) HS0.out.t0).mono ?_
      rintro e w4 ⟨rfl, hb⟩
      clear x0 x1 x2 x3 x4 x5 x6 x7 x8 x9 x10 x11 x12
      have HB4 := Aside0.mk (below_step HB3.out hb)
      have HO4 := Aside0.mk ((hb.block bx (blk_lt HO3.out)).trans HO3.out)
      clear hb
      go_wp2_with fail
      rw [rounds_succ]
      have x0 : w4.cell? ⟨bx, 0, none⟩ = some (.slice (some ad0) P.length c0) := (blk_cell HO4.out 0).trans rfl
      have x1 : w4.cell? ⟨bx, 1, none⟩ = some (.slice (some ad1) L.length c1) := (blk_cell HO4.out 1).trans rfl
      have x2 : w4.cell? ⟨bx, 2, none⟩ = some (.int .i64 a2) := (blk_cell HO4.out 2).trans rfl
      have x3 : w4.cell? ⟨bx, 3, none⟩ = some (.int .i64 a3) := (blk_cell HO4.out 3).trans rfl
      have x4 : w4.cell? ⟨bx, 4, none⟩ = some (.int .i64 a4) := (blk_cell HO4.out 4).trans rfl
      have x5 : w4.cell? ⟨bx, 5, none⟩ = some (.int .i64 a5) := (blk_cell HO4.out 5).trans rfl
      have x6 : w4.cell? ⟨bx, 6, none⟩ = some (.int .i64 a6) := (blk_cell HO4.out 6).trans rfl
      have x7 : w4.cell? ⟨bx, 7, none⟩ = some (.int .i64 a7) := (blk_cell HO4.out 7).trans rfl
      have x8 : w4.cell? ⟨bx, 8, none⟩ = some (.int .i64 a8) := (blk_cell HO4.out 8).trans rfl
      have x9 : w4.cell? ⟨bx, 9, none⟩ = some (.int .i64 a9) := (blk_cell HO4.out 9).trans rfl
      have x10 : w4.cell? ⟨bx, 10, none⟩ = some (.int .i64 a10) := (blk_cell HO4.out 10).trans rfl
      have x11 : w4.cell? ⟨bx, 11, none⟩ = some (.int .i64 a11) := (blk_cell HO4.out 11).trans rfl
      have x12 : w4.cell? ⟨bx, 12, none⟩ = some (.int .i64 a12) := (blk_cell HO4.out 12).trans rfl
      obtain ⟨ad', e0, z0, z1⟩ := at_T60 (Kd.C_below HR0.out HB4.out) a hq0 hq1
      have e0' := Option.some.inj e0
      subst e0'
      clear e0
      go_wp2_with fail
      refine (idx_yes _ _ _ HS0.out.m0 HS0.out.m1).mono ?_
      rintro e w5 ⟨rfl, hb⟩
      clear x0 x1 x2 x3 x4 x5 x6 x7 x8 x9 x10 x11 x12 z0 z1
      have HB5 := Aside0.mk (below_step HB4.out hb)
      have HO5 := Aside0.mk ((hb.block bx (blk_lt HO4.out)).trans HO4.out)
      clear hb
      have x0 : w5.cell? ⟨bx, 0, none⟩ = some (.slice (some ad0) P.length c0) := (blk_cell HO5.out 0).trans rfl
      have x1 : w5.cell? ⟨bx, 1, none⟩ = some (.slice (some ad1) L.length c1) := (blk_cell HO5.out 1).trans rfl
      have x2 : w5.cell? ⟨bx, 2, none⟩ = some (.int .i64 a2) := (blk_cell HO5.out 2).trans rfl
      have x3 : w5.cell? ⟨bx, 3, none⟩ = some (.int .i64 a3) := (blk_cell HO5.out 3).trans rfl
      have x4 : w5.cell? ⟨bx, 4, none⟩ = some (.int .i64 a4) := (blk_cell HO5.out 4).trans rfl
      have x5 : w5.cell? ⟨bx, 5, none⟩ = some (.int .i64 a5) := (blk_cell HO5.out 5).trans rfl
      have x6 : w5.cell? ⟨bx, 6, none⟩ = some (.int .i64 a6) := (blk_cell HO5.out 6).trans rfl
      have x7 : w5.cell? ⟨bx, 7, none⟩ = some (.int .i64 a7) := (blk_cell HO5.out 7).trans rfl
      have x8 : w5.cell? ⟨bx, 8, none⟩ = some (.int .i64 a8) := (blk_cell HO5.out 8).trans rfl
      have x9 : w5.cell? ⟨bx, 9, none⟩ = some (.int .i64 a9) := (blk_cell HO5.out 9).trans rfl
      have x10 : w5.cell? ⟨bx, 10, none⟩ = some (.int .i64 a10) := (blk_cell HO5.out 10).trans rfl
      have x11 : w5.cell? ⟨bx, 11, none⟩ = some (.int .i64 a11) := (blk_cell HO5.out 11).trans rfl
      have x12 : w5.cell? ⟨bx, 12, none⟩ = some (.int .i64 a12) := (blk_cell HO5.out 12).trans rfl
      go_wp2_with fail
      refine (taken_no _ c1 L i a p1 _ (Kd.C_below HR1.out HB5.out) HL.out hi0 (by omega) HS0.out.t1).mono ?_
      rintro e w6 ⟨rfl, hb⟩
      clear x0 x1 x2 x3 x4 x5 x6 x7 x8 x9 x10 x11 x12
      have HB6 := Aside0.mk (below_step HB5.out hb)
      have HO6 := Aside0.mk ((hb.block bx (blk_lt HO5.out)).trans HO5.out)
      clear hb
      go_wp2_with fail
      rw [rounds_succ]
      go_wp2_with fail
      go_roundg k1
      case measure => have := HK.out; omega
      case rel => exact ⟨1, rfl, ⟨by have := HK.out; omega⟩, ⟨by omega⟩, HB6, HO6⟩
    · subst e
      have x0 : wr.cell? ⟨bx, 0, none⟩ = some (.slice (some ad0) P.length c0) := (blk_cell HO.out 0).trans rfl
      have x1 : wr.cell? ⟨bx, 1, none⟩ = some (.slice (some ad1) L.length c1) := (blk_cell HO.out 1).trans rfl
      have x2 : wr.cell? ⟨bx, 2, none⟩ = some (.int .i64 a2) := (blk_cell HO.out 2).trans rfl
      have x3 : wr.cell? ⟨bx, 3, none⟩ = some (.int .i64 a3) := (blk_cell HO.out 3).trans rfl
      have x4 : wr.cell? ⟨bx, 4, none⟩ = some (.int .i64 a4) := (blk_cell HO.out 4).trans rfl
      have x5 : wr.cell? ⟨bx, 5, none⟩ = some (.int .i64 a5) := (blk_cell HO.out 5).trans rfl
      have x6 : wr.cell? ⟨bx, 6, none⟩ = some (.int .i64 a6) := (blk_cell HO.out 6).trans rfl
      have x7 : wr.cell? ⟨bx, 7, none⟩ = some (.int .i64 a7) := (blk_cell HO.out 7).trans rfl
      have x8 : wr.cell? ⟨bx, 8, none⟩ = some (.int .i64 a8) := (blk_cell HO.out 8).trans rfl
      have x9 : wr.cell? ⟨bx, 9, none⟩ = some (.int .i64 a9) := (blk_cell HO.out 9).trans rfl
      have x10 : wr.cell? ⟨bx, 10, none⟩ = some (.int .i64 a10) := (blk_cell HO.out 10).trans rfl
      have x11 : wr.cell? ⟨bx, 11, none⟩ = some (.int .i64 a11) := (blk_cell HO.out 11).trans rfl
      have x12 : wr.cell? ⟨bx, 12, none⟩ = some (.int .i64 a12) := (blk_cell HO.out 12).trans rfl
      obtain ⟨ad', e1, y0, y1, y2, y3, y4, y5⟩ := at_T37 (Kd.C_below HR1.out HB.out) i hi0 hi1
      have e1' := Option.some.inj e1
      subst e1'
      clear e1
      rw [HX.out] at y0 y1 y2 y3 y4 y5
      dsimp only at y0 y1 y2 y3 y4 y5
      have hne := HS1.out.ne
      dsimp only at hne
      go_wp2_with fail
      refine (plan_end.calls a b p0 p1 q0 q1 1 b q0 q1 _ rfl).mono ?_
      rintro e w1 ⟨rfl, hb⟩
      clear x0 x1 x2 x3 x4 x5 x6 x7 x8 x9 x10 x11 x12 y0 y1 y2 y3 y4 y5
      have HB1 := Aside0.mk (below_step HB.out hb)
      have HO1 := Aside0.mk ((hb.block bx (blk_lt HO.out)).trans HO.out)
      clear hb
      have x0 : w1.cell? ⟨bx, 0, none⟩ = some (.slice (some ad0) P.length c0) := (blk_cell HO1.out 0).trans rfl
      have x1 : w1.cell? ⟨bx, 1, none⟩ = some (.slice (some ad1) L.length c1) := (blk_cell HO1.out 1).trans rfl
      have x2 : w1.cell? ⟨bx, 2, none⟩ = some (.int .i64 a2) := (blk_cell HO1.out 2).trans rfl
      have x3 : w1.cell? ⟨bx, 3, none⟩ = some (.int .i64 a3) := (blk_cell HO1.out 3).trans rfl
      have x4 : w1.cell? ⟨bx, 4, none⟩ = some (.int .i64 a4) := (blk_cell HO1.out 4).trans rfl
      have x5 : w1.cell? ⟨bx, 5, none⟩ = some (.int .i64 a5) := (blk_cell HO1.out 5).trans rfl
      have x6 : w1.cell? ⟨bx, 6, none⟩ = some (.int .i64 a6) := (blk_cell HO1.out 6).trans rfl
      have x7 : w1.cell? ⟨bx, 7, none⟩ = some (.int .i64 a7) := (blk_cell HO1.out 7).trans rfl
      have x8 : w1.cell? ⟨bx, 8, none⟩ = some (.int .i64 a8) := (blk_cell HO1.out 8).trans rfl
      have x9 : w1.cell? ⟨bx, 9, none⟩ = some (.int .i64 a9) := (blk_cell HO1.out 9).trans rfl
      have x10 : w1.cell? ⟨bx, 10, none⟩ = some (.int .i64 a10) := (blk_cell HO1.out 10).trans rfl
      have x11 : w1.cell? ⟨bx, 11, none⟩ = some (.int .i64 a11) := (blk_cell HO1.out 11).trans rfl
      have x12 : w1.cell? ⟨bx, 12, none⟩ = some (.int .i64 a12) := (blk_cell HO1.out 12).trans rfl
      go_wp2_with fail
      have HB2 := Aside0.mk (below_alloc HB1.out (Obj.cells #[.int .i64 q0, .int .i64 q1] 35))
      have HO2 := Aside0.mk (((below_alloc (Below.refl w1.heap.size w1) (Obj.cells #[.int .i64 q0, .int .i64 q1] 35)).block bx (blk_lt HO1.out)).trans HO1.out)
      clear x0 x1 x2 x3 x4 x5 x6 x7 x8 x9 x10 x11 x12
      generalize w1.alloc (Obj.cells #[.int .i64 q0, .int .i64 q1] 35) = w2 at *
      have hq0 := HS1.out.part0
      have hq1 := HS1.out.part1
      have hq0_ := eq_true hq0
      have hq1_ := eq_true hq1
      have ix0 : ∀ w : World, (Instr.index 35 (.agg #[.int .i64 q0, .int .i64 q1]) (.int .i64 0)).run Tryd.prog w = .ok (.int .i64 q0) w := fun _ => by kernel_rfl
      have ix1 : ∀ w : World, (Instr.index 35 (.agg #[.int .i64 q0, .int .i64 q1]) (.int .i64 1)).run Tryd.prog w = .ok (.int .i64 q1) w := fun _ => by kernel_rfl
      refine wp_loop_rounds 3 ?_
      rw [rounds_succ]
      have x0 : w2.cell? ⟨bx, 0, none⟩ = some (.slice (some ad0) P.length c0) := (blk_cell HO2.out 0).trans rfl
      have x1 : w2.cell? ⟨bx, 1, none⟩ = some (.slice (some ad1) L.length c1) := (blk_cell HO2.out 1).trans rfl
      have x2 : w2.cell? ⟨bx, 2, none⟩ = some (.int .i64 a2) := (blk_cell HO2.out 2).trans rfl
      have x3 : w2.cell? ⟨bx, 3, none⟩ = some (.int .i64 a3) := (blk_cell HO2.out 3).trans rfl
      have x4 : w2.cell? ⟨bx, 4, none⟩ = some (.int .i64 a4) := (blk_cell HO2.out 4).trans rfl
      have x5 : w2.cell? ⟨bx, 5, none⟩ = some (.int .i64 a5) := (blk_cell HO2.out 5).trans rfl
      have x6 : w2.cell? ⟨bx, 6, none⟩ = some (.int .i64 a6) := (blk_cell HO2.out 6).trans rfl
      have x7 : w2.cell? ⟨bx, 7, none⟩ = some (.int .i64 a7) := (blk_cell HO2.out 7).trans rfl
      have x8 : w2.cell? ⟨bx, 8, none⟩ = some (.int .i64 a8) := (blk_cell HO2.out 8).trans rfl
      have x9 : w2.cell? ⟨bx, 9, none⟩ = some (.int .i64 a9) := (blk_cell HO2.out 9).trans rfl
      have x10 : w2.cell? ⟨bx, 10, none⟩ = some (.int .i64 a10) := (blk_cell HO2.out 10).trans rfl
      have x11 : w2.cell? ⟨bx, 11, none⟩ = some (.int .i64 a11) := (blk_cell HO2.out 11).trans rfl
      have x12 : w2.cell? ⟨bx, 12, none⟩ = some (.int .i64 a12) := (blk_cell HO2.out 12).trans rfl
      obtain ⟨ad', e0, z0, z1⟩ := at_T60 (Kd.C_below HR0.out HB2.out) b hq0 hq1
      have e0' := Option.some.inj e0
      subst e0'
      clear e0
      go_wp2_with fail
      refine (idx_yes _ _ _ HS1.out.n0 HS1.out.n1).mono ?_
      rintro e w3 ⟨rfl, hb⟩
      clear x0 x1 x2 x3 x4 x5 x6 x7 x8 x9 x10 x11 x12 z0 z1
      have HB3 := Aside0.mk (below_step HB2.out hb)
      have HO3 := Aside0.mk ((hb.block bx (blk_lt HO2.out)).trans HO2.out)
      clear hb
      have x0 : w3.cell? ⟨bx, 0, none⟩ = some (.slice (some ad0) P.length c0) := (blk_cell HO3.out 0).trans rfl
      have x1 : w3.cell? ⟨bx, 1, none⟩ = some (.slice (some ad1) L.length c1) := (blk_cell HO3.out 1).trans rfl
      have x2 : w3.cell? ⟨bx, 2, none⟩ = some (.int .i64 a2) := (blk_cell HO3.out 2).trans rfl
      have x3 : w3.cell? ⟨bx, 3, none⟩ = some (.int .i64 a3) := (blk_cell HO3.out 3).trans rfl
      have x4 : w3.cell? ⟨bx, 4, none⟩ = some (.int .i64 a4) := (blk_cell HO3.out 4).trans rfl
      have x5 : w3.cell? ⟨bx, 5, none⟩ = some (.int .i64 a5) := (blk_cell HO3.out 5).trans rfl
      have x6 : w3.cell? ⟨bx, 6, none⟩ = some (.int .i64 a6) := (blk_cell HO3.out 6).trans rfl
      have x7 : w3.cell? ⟨bx, 7, none⟩ = some (.int .i64 a7) := (blk_cell HO3.out 7).trans rfl
      have x8 : w3.cell? ⟨bx, 8, none⟩ = some (.int .i64 a8) := (blk_cell HO3.out 8).trans rfl
      have x9 : w3.cell? ⟨bx, 9, none⟩ = some (.int .i64 a9) := (blk_cell HO3.out 9).trans rfl
      have x10 : w3.cell? ⟨bx, 10, none⟩ = some (.int .i64 a10) := (blk_cell HO3.out 10).trans rfl
      have x11 : w3.cell? ⟨bx, 11, none⟩ = some (.int .i64 a11) := (blk_cell HO3.out 11).trans rfl
      have x12 : w3.cell? ⟨bx, 12, none⟩ = some (.int .i64 a12) := (blk_cell HO3.out 12).trans rfl
      go_wp2_with fail
      refine (taken_no _ c1 L i b q0 _ (Kd.C_below HR1.out HB3.out) HL.out hi0 (by omega) HS1.out.t0).mono ?_
      rintro e w4 ⟨rfl, hb⟩
      clear x0 x1 x2 x3 x4 x5 x6 x7 x8 x9 x10 x11 x12
      have HB4 := Aside0.mk (below_step HB3.out hb)
      have HO4 := Aside0.mk ((hb.block bx (blk_lt HO3.out)).trans HO3.out)
      clear hb
      go_wp2_with fail
      rw [rounds_succ]
      have x0 : w4.cell? ⟨bx, 0, none⟩ = some (.slice (some ad0) P.length c0) := (blk_cell HO4.out 0).trans rfl
      have x1 : w4.cell? ⟨bx, 1, none⟩ = some (.slice (some ad1) L.length c1) := (blk_cell HO4.out 1).trans rfl
      have x2 : w4.cell? ⟨bx, 2, none⟩ = some (.int .i64 a2) := (blk_cell HO4.out 2).trans rfl
      have x3 : w4.cell? ⟨bx, 3, none⟩ = some (.int .i64 a3) := (blk_cell HO4.out 3).trans rfl
      have x4 : w4.cell? ⟨bx, 4, none⟩ = some (.int .i64 a4) := (blk_cell HO4.out 4).trans rfl
      have x5 : w4.cell? ⟨bx, 5, none⟩ = some (.int .i64 a5) := (blk_cell HO4.out 5).trans rfl
      have x6 : w4.cell? ⟨bx, 6, none⟩ = some (.int .i64 a6) := (blk_cell HO4.out 6).trans rfl
      have x7 : w4.cell? ⟨bx, 7, none⟩ = some (.int .i64 a7) := (blk_cell HO4.out 7).trans rfl
      have x8 : w4.cell? ⟨bx, 8, none⟩ = some (.int .i64 a8) := (blk_cell HO4.out 8).trans rfl
      have x9 : w4.cell? ⟨bx, 9, none⟩ = some (.int .i64 a9) := (blk_cell HO4.out 9).trans rfl
      have x10 : w4.cell? ⟨bx, 10, none⟩ = some (.int .i64 a10) := (blk_cell HO4.out 10).trans rfl
      have x11 : w4.cell? ⟨bx, 11, none⟩ = some (.int .i64 a11) := (blk_cell HO4.out 11).trans rfl
      have x12 : w4.cell? ⟨bx, 12, none⟩ = some (.int .i64 a12) := (blk_cell HO4.out 12).trans rfl
      obtain ⟨ad', e0, z0, z1⟩ := at_T60 (Kd.C_below HR0.out HB4.out) b hq0 hq1
      have e0' := Option.some.inj e0
      subst e0'
      clear e0
      go_wp2_with fail
      refine (idx_yes _ _ _ HS1.out.m0 HS1.out.m1).mono ?_
      rintro e w5 ⟨rfl, hb⟩
      clear x0 x1 x2 x3 x4 x5 x6 x7 x8 x9 x10 x11 x12 z0 z1
      have HB5 := Aside0.mk (below_step HB4.out hb)
      have HO5 := Aside0.mk ((hb.block bx (blk_lt HO4.out)).trans HO4.out)
      clear hb
      have x0 : w5.cell? ⟨bx, 0, none⟩ = some (.slice (some ad0) P.length c0) := (blk_cell HO5.out 0).trans rfl
      have x1 : w5.cell? ⟨bx, 1, none⟩ = some (.slice (some ad1) L.length c1) := (blk_cell HO5.out 1).trans rfl
      have x2 : w5.cell? ⟨bx, 2, none⟩ = some (.int .i64 a2) := (blk_cell HO5.out 2).trans rfl
      have x3 : w5.cell? ⟨bx, 3, none⟩ = some (.int .i64 a3) := (blk_cell HO5.out 3).trans rfl
      have x4 : w5.cell? ⟨bx, 4, none⟩ = some (.int .i64 a4) := (blk_cell HO5.out 4).trans rfl
      have x5 : w5.cell? ⟨bx, 5, none⟩ = some (.int .i64 a5) := (blk_cell HO5.out 5).trans rfl
      have x6 : w5.cell? ⟨bx, 6, none⟩ = some (.int .i64 a6) := (blk_cell HO5.out 6).trans rfl
      have x7 : w5.cell? ⟨bx, 7, none⟩ = some (.int .i64 a7) := (blk_cell HO5.out 7).trans rfl
      have x8 : w5.cell? ⟨bx, 8, none⟩ = some (.int .i64 a8) := (blk_cell HO5.out 8).trans rfl
      have x9 : w5.cell? ⟨bx, 9, none⟩ = some (.int .i64 a9) := (blk_cell HO5.out 9).trans rfl
      have x10 : w5.cell? ⟨bx, 10, none⟩ = some (.int .i64 a10) := (blk_cell HO5.out 10).trans rfl
      have x11 : w5.cell? ⟨bx, 11, none⟩ = some (.int .i64 a11) := (blk_cell HO5.out 11).trans rfl
      have x12 : w5.cell? ⟨bx, 12, none⟩ = some (.int .i64 a12) := (blk_cell HO5.out 12).trans rfl
      go_wp2_with fail
      refine (taken_no _ c1 L i b q1 _ (Kd.C_below HR1.out HB5.out) HL.out hi0 (by omega) HS1.out.t1).mono ?_
      rintro e w6 ⟨rfl, hb⟩
      clear x0 x1 x2 x3 x4 x5 x6 x7 x8 x9 x10 x11 x12
      have HB6 := Aside0.mk (below_step HB5.out hb)
      have HO6 := Aside0.mk ((hb.block bx (blk_lt HO5.out)).trans HO5.out)
      clear hb
      go_wp2_with fail
      rw [rounds_succ]
      go_wp2_with fail
      go_roundg k1
      case measure => have := HK.out; omega
      case rel => exact ⟨2, rfl, ⟨by have := HK.out; omega⟩, ⟨by omega⟩, HB6, HO6⟩
    · subst e
      go_wp2_with fail
      go_ret
      exact ⟨rfl, HB.out⟩
end Go.Proofs.YtkhlndhleiaokaaDoor.MHo
set_option linter.unusedVariables false
set_option linter.unusedSimpArgs false
namespace Go.Proofs.YtkhlndhleiaokaaDoor.MHo
open Go.RowKit Go.Proofs.YtkhlndhleiaokaaDoorW.PrintWords Go.Proofs.YtkhlndhleiaokaaDoorW.PrintLast Go.Proofs.YtkhlndhleiaokaaDoorW.PrintMore
/-- Is a link of these two parts? -/
def sameEnds (a b : Int) (x : S37) : Bool := x.f0 == a && x.f1 == b
set_option maxHeartbeats 4000000 in
set_option maxRecDepth 4000 in
theorem same_walk (a b p0 p1 q0 q1 : Int) (bl : Nat) (x : S37) (w : World) (h : w.heap[bl]? = some (.cells #[.int .i64 a, .int .i64 b, .int .i64 p0, .int .i64 p1, .int .i64 q0, .int .i64 q1] 37)) :
    Calls Tryd.prog 88 #[val37 x, .pointer (some ⟨bl, 0, none⟩)] w fun e w' => e = .returned (.bool (sameEnds a b x)) ∧ Below w.heap.size w w' := by
  obtain ⟨xa, xb, ⟨x0, x1⟩, ⟨x2, x3⟩⟩ := x
  have c0 : w.cell? ⟨bl, 0, none⟩ = some (.int .i64 a) := (blk_cell h 0).trans rfl
  have c1 : w.cell? ⟨bl, 1, none⟩ = some (.int .i64 b) := (blk_cell h 1).trans rfl
  have hlt := blk_lt h
  have hne : bl ≠ w.heap.size := by omega
  have hne2 : w.heap.size ≠ bl := by omega
  clear h
  have HS : sameEnds a b ⟨xa, xb, ⟨x0, x1⟩, ⟨x2, x3⟩⟩ = (xa == a && xb == b) := rfl
  rw [HS]
  clear HS
  cases h1 : (xa == a) with
  | false =>
    go_enter Tryd.func88, Tryd.ntmps88
    go_wp2_with fail
    go_ret
    exact ⟨rfl, by repeat (first | exact Below.refl _ _ | apply below_alloc)⟩
  | true =>
    cases h2 : (xb == b) with
    | false =>
      go_enter Tryd.func88, Tryd.ntmps88
      go_wp2_with fail
      go_ret
      exact ⟨rfl, by repeat (first | exact Below.refl _ _ | apply below_alloc)⟩
    | true =>
      go_enter Tryd.func88, Tryd.ntmps88
      go_wp2_with fail
      go_ret
      exact ⟨rfl, by repeat (first | exact Below.refl _ _ | apply below_alloc)⟩
theorem twice_no (a b p0 p1 q0 q1 : Int) (bl : Nat) (A1 : Option Addr) (c1 : Nat) (L : List S37) (i : Int) (w : World) (hr : Kd.C k37 w A1 L.length L) (hl : L.length ≤ 1000) (h0 : 0 ≤ i) (h1 : i ≤ L.length) (ht : (L.take i.toNat).any (sameEnds a b) = false)
    (h : w.heap[bl]? = some (.cells #[.int .i64 a, .int .i64 b, .int .i64 p0, .int .i64 p1, .int .i64 q0, .int .i64 q1] 37)) :
    Calls Tryd.prog 87 #[.slice A1 i.toNat c1, .func (.func 88) #[] #[.pointer (some ⟨bl, 0, none⟩)]] w fun e w' => e = .returned (.bool false) ∧ Below w.heap.size w w' := by
  have hlen : (L.take i.toNat).length = i.toNat := by rw [List.length_take]; omega
  have h := containsFunc (sameEnds a b) 88 #[.pointer (some ⟨bl, 0, none⟩)] (entersT Tryd.func88 (by kernel_rfl) rfl) A1 c1 (L.take i.toNat) w (Kd.C_take hr (show i.toNat ≤ L.length by omega)) (by rw [hlen]; omega)
    (fun W x hW => same_walk a b p0 p1 q0 q1 bl x W ((hW.block bl (blk_lt h)).trans h))
  rw [hlen, ht] at h
  exact h
/-- A link that may be, behind those ahead of it. -/
structure LinkOk (P : List S60) (T : List S37) (x : S37) : Prop where
  a0 : 0 ≤ x.f0
  ab : x.f0 < x.f1
  b1 : x.f1 < P.length
  once : T.any (sameEnds x.f0 x.f1) = false
  s0 : SideOk P T x.f0 x.f2
  s1 : SideOk P T x.f1 x.f3
set_option maxHeartbeats 8000000 in
set_option maxRecDepth 4000 in
theorem links_yes (A0 : Option Addr) (c0 : Nat) (P : List S60) (A1 : Option Addr) (c1 : Nat) (L : List S37) (a2 a3 a4 a5 a6 a7 a8 a9 a10 a11 a12 : Int) (w : World) (hr0 : Kd.C k60 w A0 P.length P) (hc0 : P.length ≤ c0) (hr1 : Kd.C k37 w A1 L.length L) (hc1 : L.length ≤ c1) (hL : L.length ≤ 10) (hk : ∀ i : Int, 0 ≤ i → i < L.length → LinkOk P (L.take i.toNat) (rd_T37 L i)) :
    Calls Tryd.prog 74 #[.agg #[.slice A0 P.length c0, .slice A1 L.length c1, .int .i64 a2, .int .i64 a3, .int .i64 a4, .int .i64 a5, .int .i64 a6, .int .i64 a7, .int .i64 a8, .int .i64 a9, .int .i64 a10, .int .i64 a11, .int .i64 a12]] w fun e w' => e = .returned .nilIface ∧ Below w.heap.size w w' := by
  have HR0 := Aside0.mk hr0
  have HR1 := Aside0.mk hr1
  have HC0 := Aside0.mk hc0
  have HC1 := Aside0.mk hc1
  have HK0 := Aside0.mk hk
  have HL := Aside0.mk hL
  have hd : decide ((10 : Int) < (L.length : Int)) = false := decide_eq_false (by omega)
  clear hr0 hr1 hc0 hc1 hk hL
  go_enter Tryd.func74, Tryd.ntmps74
  go_wp2_with fail
  have HO : Aside0 ((w.alloc (.cells #[.slice A0 P.length c0, .slice A1 L.length c1, .int .i64 a2, .int .i64 a3, .int .i64 a4, .int .i64 a5, .int .i64 a6, .int .i64 a7, .int .i64 a8, .int .i64 a9, .int .i64 a10, .int .i64 a11, .int .i64 a12] 25)).heap[w.heap.size]? = some (.cells #[.slice A0 P.length c0, .slice A1 L.length c1, .int .i64 a2, .int .i64 a3, .int .i64 a4, .int .i64 a5, .int .i64 a6, .int .i64 a7, .int .i64 a8, .int .i64 a9, .int .i64 a10, .int .i64 a11, .int .i64 a12] 25)) := ⟨heap_alloc_new _ _⟩
  have HB := Aside0.mk (below_alloc (Below.refl w.heap.size w) (Obj.cells #[.slice A0 P.length c0, .slice A1 L.length c1, .int .i64 a2, .int .i64 a3, .int .i64 a4, .int .i64 a5, .int .i64 a6, .int .i64 a7, .int .i64 a8, .int .i64 a9, .int .i64 a10, .int .i64 a11, .int .i64 a12] 25))
  generalize w.alloc (Obj.cells #[.slice A0 P.length c0, .slice A1 L.length c1, .int .i64 a2, .int .i64 a3, .int .i64 a4, .int .i64 a5, .int .i64 a6, .int .i64 a7, .int .i64 a8, .int .i64 a9, .int .i64 a10, .int .i64 a11, .int .i64 a12] 25) = wa at *
  obtain ⟨bx, hbx⟩ : ∃ bx, bx = w.heap.size := ⟨_, rfl⟩
  rw [← hbx]
  rw [← hbx] at HO
  have HBX := Aside0.mk hbx
  clear hbx hd
  go_loopg [13] (L.length + 1) (fun kq v13 w' => ∃ i : Int, v13 = .int .i64 i ∧ Aside0 (kq + i = L.length + 1 ∧ 0 ≤ i) ∧ Aside0 (Below w.heap.size w w') ∧ Aside0 (w'.heap[bx]? = some (.cells #[.slice A0 P.length c0, .slice A1 L.length c1, .int .i64 a2, .int .i64 a3, .int .i64 a4, .int .i64 a5, .int .i64 a6, .int .i64 a7, .int .i64 a8, .int .i64 a9, .int .i64 a10, .int .i64 a11, .int .i64 a12] 25)))
  case atStart => exact ⟨0, rfl, ⟨by omega⟩, HB, HO⟩
  case round =>
    clear HO HB
    obtain ⟨i, rfl, HK, HB, HO⟩ := hrel
    by_cases hi1 : i < (L.length : Int)
    · have hi0 := HK.out.2
      obtain ⟨ad1, e1, y0, y1, y2, y3, y4, y5⟩ := at_T37 (Kd.C_below HR1.out HB.out) i hi0 hi1
      cases e1
      have HQ := Aside0.mk (HK0.out i hi0 hi1)
      obtain ⟨x, hx⟩ : ∃ x, rd_T37 L i = x := ⟨_, rfl⟩
      have HX := Aside0.mk hx
      rw [hx] at y0 y1 y2 y3 y4 y5 HQ
      clear hx
      obtain ⟨a, b, ⟨p0, p1⟩, ⟨q0, q1⟩⟩ := x
      have HQ' : Aside0 (0 ≤ a ∧ a < b ∧ b < (P.length : Int)) := ⟨HQ.out.a0, HQ.out.ab, HQ.out.b1⟩
      dsimp only at y0 y1 y2 y3 y4 y5
      have hlt : decide (i < (L.length : Int)) = true := decide_eq_true hi1
      have p0_ := eq_true hi0
      have p1_ := eq_true hi1
      have hic : i ≤ (c1 : Int) := by have := HC1.out; omega
      have hw1 : wrap64 (i + 1) = i + 1 := by have := HL.out; unfold wrap64; omega
      have hge : decide (b ≤ a) = false := decide_eq_false (by have := HQ'.out; omega)
      cases gk with
      | zero => exact absurd HK.out (by omega)
      | succ k1 =>
      have x0 : wr.cell? ⟨bx, 0, none⟩ = some (.slice A0 P.length c0) := (blk_cell HO.out 0).trans rfl
      have x1 : wr.cell? ⟨bx, 1, none⟩ = some (.slice (some ad1) L.length c1) := (blk_cell HO.out 1).trans rfl
      have x2 : wr.cell? ⟨bx, 2, none⟩ = some (.int .i64 a2) := (blk_cell HO.out 2).trans rfl
      have x3 : wr.cell? ⟨bx, 3, none⟩ = some (.int .i64 a3) := (blk_cell HO.out 3).trans rfl
      have x4 : wr.cell? ⟨bx, 4, none⟩ = some (.int .i64 a4) := (blk_cell HO.out 4).trans rfl
      have x5 : wr.cell? ⟨bx, 5, none⟩ = some (.int .i64 a5) := (blk_cell HO.out 5).trans rfl
      have x6 : wr.cell? ⟨bx, 6, none⟩ = some (.int .i64 a6) := (blk_cell HO.out 6).trans rfl
      have x7 : wr.cell? ⟨bx, 7, none⟩ = some (.int .i64 a7) := (blk_cell HO.out 7).trans rfl
      have x8 : wr.cell? ⟨bx, 8, none⟩ = some (.int .i64 a8) := (blk_cell HO.out 8).trans rfl
      have x9 : wr.cell? ⟨bx, 9, none⟩ = some (.int .i64 a9) := (blk_cell HO.out 9).trans rfl
      have x10 : wr.cell? ⟨bx, 10, none⟩ = some (.int .i64 a10) := (blk_cell HO.out 10).trans rfl
      have x11 : wr.cell? ⟨bx, 11, none⟩ = some (.int .i64 a11) := (blk_cell HO.out 11).trans rfl
      have x12 : wr.cell? ⟨bx, 12, none⟩ = some (.int .i64 a12) := (blk_cell HO.out 12).trans rfl
      go_upto_region 6 with fail
      have HB1 := Aside0.mk (below_alloc HB.out (Obj.cells #[.int .i64 a, .int .i64 b, .int .i64 p0, .int .i64 p1, .int .i64 q0, .int .i64 q1] 37))
      have HO1 := Aside0.mk (((below_alloc (Below.refl wr.heap.size wr) (Obj.cells #[.int .i64 a, .int .i64 b, .int .i64 p0, .int .i64 p1, .int .i64 q0, .int .i64 q1] 37)).block bx (blk_lt HO.out)).trans HO.out)
      have HLk1 : Aside0 ((wr.alloc (Obj.cells #[.int .i64 a, .int .i64 b, .int .i64 p0, .int .i64 p1, .int .i64 q0, .int .i64 q1] 37)).heap[wr.heap.size]? = some (Obj.cells #[.int .i64 a, .int .i64 b, .int .i64 p0, .int .i64 p1, .int .i64 q0, .int .i64 q1] 37)) := ⟨heap_alloc_new _ _⟩
      clear x0 x1 x2 x3 x4 x5 x6 x7 x8 x9 x10 x11 x12 y0 y1 y2 y3 y4 y5
      generalize wr.alloc (Obj.cells #[.int .i64 a, .int .i64 b, .int .i64 p0, .int .i64 p1, .int .i64 q0, .int .i64 q1] 37) = w1 at *
      generalize wr.heap.size = bl at *
      have x0 : w1.cell? ⟨bx, 0, none⟩ = some (.slice A0 P.length c0) := (blk_cell HO1.out 0).trans rfl
      have x1 : w1.cell? ⟨bx, 1, none⟩ = some (.slice (some ad1) L.length c1) := (blk_cell HO1.out 1).trans rfl
      have x2 : w1.cell? ⟨bx, 2, none⟩ = some (.int .i64 a2) := (blk_cell HO1.out 2).trans rfl
      have x3 : w1.cell? ⟨bx, 3, none⟩ = some (.int .i64 a3) := (blk_cell HO1.out 3).trans rfl
      have x4 : w1.cell? ⟨bx, 4, none⟩ = some (.int .i64 a4) := (blk_cell HO1.out 4).trans rfl
      have x5 : w1.cell? ⟨bx, 5, none⟩ = some (.int .i64 a5) := (blk_cell HO1.out 5).trans rfl
      have x6 : w1.cell? ⟨bx, 6, none⟩ = some (.int .i64 a6) := (blk_cell HO1.out 6).trans rfl
      have x7 : w1.cell? ⟨bx, 7, none⟩ = some (.int .i64 a7) := (blk_cell HO1.out 7).trans rfl
      have x8 : w1.cell? ⟨bx, 8, none⟩ = some (.int .i64 a8) := (blk_cell HO1.out 8).trans rfl
      have x9 : w1.cell? ⟨bx, 9, none⟩ = some (.int .i64 a9) := (blk_cell HO1.out 9).trans rfl
      have x10 : w1.cell? ⟨bx, 10, none⟩ = some (.int .i64 a10) := (blk_cell HO1.out 10).trans rfl
      have x11 : w1.cell? ⟨bx, 11, none⟩ = some (.int .i64 a11) := (blk_cell HO1.out 11).trans rfl
      have x12 : w1.cell? ⟨bx, 12, none⟩ = some (.int .i64 a12) := (blk_cell HO1.out 12).trans rfl
      have l0 : w1.cell? ⟨bl, 0, none⟩ = some (.int .i64 a) := (blk_cell HLk1.out 0).trans rfl
      have l1 : w1.cell? ⟨bl, 1, none⟩ = some (.int .i64 b) := (blk_cell HLk1.out 1).trans rfl
      have l2 : w1.cell? ⟨bl, 2, none⟩ = some (.int .i64 p0) := (blk_cell HLk1.out 2).trans rfl
      have l3 : w1.cell? ⟨bl, 3, none⟩ = some (.int .i64 p1) := (blk_cell HLk1.out 3).trans rfl
      have l4 : w1.cell? ⟨bl, 4, none⟩ = some (.int .i64 q0) := (blk_cell HLk1.out 4).trans rfl
      have l5 : w1.cell? ⟨bl, 5, none⟩ = some (.int .i64 q1) := (blk_cell HLk1.out 5).trans rfl
      go_wp2_with fail
      refine (idx_yes a (P.length : Int) _ HQ'.out.1 (by have := HQ'.out; omega)).mono ?_
      rintro e w2 ⟨rfl, hb⟩
      clear x0 x1 x2 x3 x4 x5 x6 x7 x8 x9 x10 x11 x12 l0 l1 l2 l3 l4 l5
      have HB2 := Aside0.mk (below_step HB1.out hb)
      have HO2 := Aside0.mk ((hb.block bx (blk_lt HO1.out)).trans HO1.out)
      have HLk2 := Aside0.mk ((hb.block bl (blk_lt HLk1.out)).trans HLk1.out)
      clear hb
      have x0 : w2.cell? ⟨bx, 0, none⟩ = some (.slice A0 P.length c0) := (blk_cell HO2.out 0).trans rfl
      have x1 : w2.cell? ⟨bx, 1, none⟩ = some (.slice (some ad1) L.length c1) := (blk_cell HO2.out 1).trans rfl
      have x2 : w2.cell? ⟨bx, 2, none⟩ = some (.int .i64 a2) := (blk_cell HO2.out 2).trans rfl
      have x3 : w2.cell? ⟨bx, 3, none⟩ = some (.int .i64 a3) := (blk_cell HO2.out 3).trans rfl
      have x4 : w2.cell? ⟨bx, 4, none⟩ = some (.int .i64 a4) := (blk_cell HO2.out 4).trans rfl
      have x5 : w2.cell? ⟨bx, 5, none⟩ = some (.int .i64 a5) := (blk_cell HO2.out 5).trans rfl
      have x6 : w2.cell? ⟨bx, 6, none⟩ = some (.int .i64 a6) := (blk_cell HO2.out 6).trans rfl
      have x7 : w2.cell? ⟨bx, 7, none⟩ = some (.int .i64 a7) := (blk_cell HO2.out 7).trans rfl
      have x8 : w2.cell? ⟨bx, 8, none⟩ = some (.int .i64 a8) := (blk_cell HO2.out 8).trans rfl
      have x9 : w2.cell? ⟨bx, 9, none⟩ = some (.int .i64 a9) := (blk_cell HO2.out 9).trans rfl
      have x10 : w2.cell? ⟨bx, 10, none⟩ = some (.int .i64 a10) := (blk_cell HO2.out 10).trans rfl
      have x11 : w2.cell? ⟨bx, 11, none⟩ = some (.int .i64 a11) := (blk_cell HO2.out 11).trans rfl
      have x12 : w2.cell? ⟨bx, 12, none⟩ = some (.int .i64 a12) := (blk_cell HO2.out 12).trans rfl
      have l0 : w2.cell? ⟨bl, 0, none⟩ = some (.int .i64 a) := (blk_cell HLk2.out 0).trans rfl
      have l1 : w2.cell? ⟨bl, 1, none⟩ = some (.int .i64 b) := (blk_cell HLk2.out 1).trans rfl
      have l2 : w2.cell? ⟨bl, 2, none⟩ = some (.int .i64 p0) := (blk_cell HLk2.out 2).trans rfl
      have l3 : w2.cell? ⟨bl, 3, none⟩ = some (.int .i64 p1) := (blk_cell HLk2.out 3).trans rfl
      have l4 : w2.cell? ⟨bl, 4, none⟩ = some (.int .i64 q0) := (blk_cell HLk2.out 4).trans rfl
      have l5 : w2.cell? ⟨bl, 5, none⟩ = some (.int .i64 q1) := (blk_cell HLk2.out 5).trans rfl
      go_wp2_with fail
      refine (idx_yes _ _ _ (show (0 : Int) ≤ b by have := HQ'.out; omega) HQ'.out.2.2).mono ?_
      rintro e w3 ⟨rfl, hb⟩
      clear x0 x1 x2 x3 x4 x5 x6 x7 x8 x9 x10 x11 x12 l0 l1 l2 l3 l4 l5
      have HB3 := Aside0.mk (below_step HB2.out hb)
      have HO3 := Aside0.mk ((hb.block bx (blk_lt HO2.out)).trans HO2.out)
      have HLk3 := Aside0.mk ((hb.block bl (blk_lt HLk2.out)).trans HLk2.out)
      clear hb
      have x0 : w3.cell? ⟨bx, 0, none⟩ = some (.slice A0 P.length c0) := (blk_cell HO3.out 0).trans rfl
      have x1 : w3.cell? ⟨bx, 1, none⟩ = some (.slice (some ad1) L.length c1) := (blk_cell HO3.out 1).trans rfl
      have x2 : w3.cell? ⟨bx, 2, none⟩ = some (.int .i64 a2) := (blk_cell HO3.out 2).trans rfl
      have x3 : w3.cell? ⟨bx, 3, none⟩ = some (.int .i64 a3) := (blk_cell HO3.out 3).trans rfl
      have x4 : w3.cell? ⟨bx, 4, none⟩ = some (.int .i64 a4) := (blk_cell HO3.out 4).trans rfl
      have x5 : w3.cell? ⟨bx, 5, none⟩ = some (.int .i64 a5) := (blk_cell HO3.out 5).trans rfl
      have x6 : w3.cell? ⟨bx, 6, none⟩ = some (.int .i64 a6) := (blk_cell HO3.out 6).trans rfl
      have x7 : w3.cell? ⟨bx, 7, none⟩ = some (.int .i64 a7) := (blk_cell HO3.out 7).trans rfl
      have x8 : w3.cell? ⟨bx, 8, none⟩ = some (.int .i64 a8) := (blk_cell HO3.out 8).trans rfl
      have x9 : w3.cell? ⟨bx, 9, none⟩ = some (.int .i64 a9) := (blk_cell HO3.out 9).trans rfl
      have x10 : w3.cell? ⟨bx, 10, none⟩ = some (.int .i64 a10) := (blk_cell HO3.out 10).trans rfl
      have x11 : w3.cell? ⟨bx, 11, none⟩ = some (.int .i64 a11) := (blk_cell HO3.out 11).trans rfl
      have x12 : w3.cell? ⟨bx, 12, none⟩ = some (.int .i64 a12) := (blk_cell HO3.out 12).trans rfl
      have l0 : w3.cell? ⟨bl, 0, none⟩ = some (.int .i64 a) := (blk_cell HLk3.out 0).trans rfl
      have l1 : w3.cell? ⟨bl, 1, none⟩ = some (.int .i64 b) := (blk_cell HLk3.out 1).trans rfl
      have l2 : w3.cell? ⟨bl, 2, none⟩ = some (.int .i64 p0) := (blk_cell HLk3.out 2).trans rfl
      have l3 : w3.cell? ⟨bl, 3, none⟩ = some (.int .i64 p1) := (blk_cell HLk3.out 3).trans rfl
      have l4 : w3.cell? ⟨bl, 4, none⟩ = some (.int .i64 q0) := (blk_cell HLk3.out 4).trans rfl
      have l5 : w3.cell? ⟨bl, 5, none⟩ = some (.int .i64 q1) := (blk_cell HLk3.out 5).trans rfl
      go_wp2_with fail
      refine (twice_no a b p0 p1 q0 q1 bl _ c1 L i _ (Kd.C_below HR1.out HB3.out) (by have := HL.out; omega) hi0 (by omega) HQ.out.once HLk3.out).mono ?_
      rintro e w4 ⟨rfl, hb⟩
      clear x0 x1 x2 x3 x4 x5 x6 x7 x8 x9 x10 x11 x12 l0 l1 l2 l3 l4 l5
      have HB4 := Aside0.mk (below_step HB3.out hb)
      have HO4 := Aside0.mk ((hb.block bx (blk_lt HO3.out)).trans HO3.out)
      have HLk4 := Aside0.mk ((hb.block bl (blk_lt HLk3.out)).trans HLk3.out)
      clear hb
      have x0 : w4.cell? ⟨bx, 0, none⟩ = some (.slice A0 P.length c0) := (blk_cell HO4.out 0).trans rfl
      have x1 : w4.cell? ⟨bx, 1, none⟩ = some (.slice (some ad1) L.length c1) := (blk_cell HO4.out 1).trans rfl
      have x2 : w4.cell? ⟨bx, 2, none⟩ = some (.int .i64 a2) := (blk_cell HO4.out 2).trans rfl
      have x3 : w4.cell? ⟨bx, 3, none⟩ = some (.int .i64 a3) := (blk_cell HO4.out 3).trans rfl
      have x4 : w4.cell? ⟨bx, 4, none⟩ = some (.int .i64 a4) := (blk_cell HO4.out 4).trans rfl
      have x5 : w4.cell? ⟨bx, 5, none⟩ = some (.int .i64 a5) := (blk_cell HO4.out 5).trans rfl
      have x6 : w4.cell? ⟨bx, 6, none⟩ = some (.int .i64 a6) := (blk_cell HO4.out 6).trans rfl
      have x7 : w4.cell? ⟨bx, 7, none⟩ = some (.int .i64 a7) := (blk_cell HO4.out 7).trans rfl
      have x8 : w4.cell? ⟨bx, 8, none⟩ = some (.int .i64 a8) := (blk_cell HO4.out 8).trans rfl
      have x9 : w4.cell? ⟨bx, 9, none⟩ = some (.int .i64 a9) := (blk_cell HO4.out 9).trans rfl
      have x10 : w4.cell? ⟨bx, 10, none⟩ = some (.int .i64 a10) := (blk_cell HO4.out 10).trans rfl
      have x11 : w4.cell? ⟨bx, 11, none⟩ = some (.int .i64 a11) := (blk_cell HO4.out 11).trans rfl
      have x12 : w4.cell? ⟨bx, 12, none⟩ = some (.int .i64 a12) := (blk_cell HO4.out 12).trans rfl
      have l0 : w4.cell? ⟨bl, 0, none⟩ = some (.int .i64 a) := (blk_cell HLk4.out 0).trans rfl
      have l1 : w4.cell? ⟨bl, 1, none⟩ = some (.int .i64 b) := (blk_cell HLk4.out 1).trans rfl
      have l2 : w4.cell? ⟨bl, 2, none⟩ = some (.int .i64 p0) := (blk_cell HLk4.out 2).trans rfl
      have l3 : w4.cell? ⟨bl, 3, none⟩ = some (.int .i64 p1) := (blk_cell HLk4.out 3).trans rfl
      have l4 : w4.cell? ⟨bl, 4, none⟩ = some (.int .i64 q0) := (blk_cell HLk4.out 4).trans rfl
      have l5 : w4.cell? ⟨bl, 5, none⟩ = some (.int .i64 q1) := (blk_cell HLk4.out 5).trans rfl
      go_wp2_with fail
      refine (ports_yes A0 c0 P (some ad1) c1 L a2 a3 a4 a5 a6 a7 a8 a9 a10 a11 a12 i ⟨a, b, ⟨p0, p1⟩, ⟨q0, q1⟩⟩ _ (Kd.C_below HR0.out HB4.out) HC0.out (Kd.C_below HR1.out HB4.out) HC1.out (by have := HL.out; omega) hi0 hi1 HX.out HQ.out.s0 HQ.out.s1).mono ?_
      rintro e w5 ⟨rfl, hb⟩
      clear x0 x1 x2 x3 x4 x5 x6 x7 x8 x9 x10 x11 x12 l0 l1 l2 l3 l4 l5
      have HB5 := Aside0.mk (below_step HB4.out hb)
      have HO5 := Aside0.mk ((hb.block bx (blk_lt HO4.out)).trans HO4.out)
      have HLk5 := Aside0.mk ((hb.block bl (blk_lt HLk4.out)).trans HLk4.out)
      clear hb
      go_wp2_with fail
      go_roundg k1
      case measure => have := HK.out; omega
      case rel => exact ⟨i + 1, (by first | rfl | rw [hw1]), ⟨by have := HK.out; omega⟩, HB5, HO5⟩
    · have hlt : decide (i < (L.length : Int)) = false := decide_eq_false hi1
      go_wp2_with fail
      go_ret
      exact ⟨rfl, HB.out⟩
/-- A part that may be. -/
def PartOk (p : S60) : Prop := 1 ≤ p.f0 ∧ p.f0 ≤ 12 ∧ 0 ≤ p.f1 ∧ p.f1 ≤ 3 ∧ 3 * p.f1 + 1 ≤ p.f0
set_option maxHeartbeats 8000000 in
set_option maxRecDepth 4000 in
theorem parts_yes (A0 : Option Addr) (c0 : Nat) (P : List S60) (A1 : Option Addr) (c1 : Nat) (L : List S37) (a2 a3 a4 a5 a6 a7 a8 a9 a10 a11 a12 : Int) (w : World) (hr0 : Kd.C k60 w A0 P.length P) (hc0 : P.length ≤ c0) (hr1 : Kd.C k37 w A1 L.length L) (hc1 : L.length ≤ c1) (h1 : 1 ≤ P.length) (h6 : P.length ≤ 6) (hk : ∀ i : Int, 0 ≤ i → i < P.length → PartOk (rd_T60 P i)) :
    Calls Tryd.prog 73 #[.agg #[.slice A0 P.length c0, .slice A1 L.length c1, .int .i64 a2, .int .i64 a3, .int .i64 a4, .int .i64 a5, .int .i64 a6, .int .i64 a7, .int .i64 a8, .int .i64 a9, .int .i64 a10, .int .i64 a11, .int .i64 a12]] w fun e w' => e = .returned .nilIface ∧ Below w.heap.size w w' := by
  have HR0 := Aside0.mk hr0
  have HK0 := Aside0.mk hk
  have HL := Aside0.mk h6
  have hd1 : decide ((P.length : Int) < 1) = false := decide_eq_false (by omega)
  have hd6 : decide ((6 : Int) < (P.length : Int)) = false := decide_eq_false (by omega)
  clear hr0 hr1 hc0 hc1 hk h1 h6
  go_enter Tryd.func73, Tryd.ntmps73
  go_wp2_with fail
  have HO : Aside0 ((w.alloc (.cells #[.slice A0 P.length c0, .slice A1 L.length c1, .int .i64 a2, .int .i64 a3, .int .i64 a4, .int .i64 a5, .int .i64 a6, .int .i64 a7, .int .i64 a8, .int .i64 a9, .int .i64 a10, .int .i64 a11, .int .i64 a12] 25)).heap[w.heap.size]? = some (.cells #[.slice A0 P.length c0, .slice A1 L.length c1, .int .i64 a2, .int .i64 a3, .int .i64 a4, .int .i64 a5, .int .i64 a6, .int .i64 a7, .int .i64 a8, .int .i64 a9, .int .i64 a10, .int .i64 a11, .int .i64 a12] 25)) := ⟨heap_alloc_new _ _⟩
  have HB := Aside0.mk (below_alloc (Below.refl w.heap.size w) (Obj.cells #[.slice A0 P.length c0, .slice A1 L.length c1, .int .i64 a2, .int .i64 a3, .int .i64 a4, .int .i64 a5, .int .i64 a6, .int .i64 a7, .int .i64 a8, .int .i64 a9, .int .i64 a10, .int .i64 a11, .int .i64 a12] 25))
  generalize w.alloc (Obj.cells #[.slice A0 P.length c0, .slice A1 L.length c1, .int .i64 a2, .int .i64 a3, .int .i64 a4, .int .i64 a5, .int .i64 a6, .int .i64 a7, .int .i64 a8, .int .i64 a9, .int .i64 a10, .int .i64 a11, .int .i64 a12] 25) = wa at *
  clear HO hd1 hd6
  go_loopg [19] (P.length + 1) (fun kq v19 w' => ∃ i : Int, v19 = .int .i64 i ∧ Aside0 (kq + i = P.length + 1 ∧ 0 ≤ i) ∧ Aside0 (Below w.heap.size w w'))
  case atStart => exact ⟨0, rfl, ⟨by omega⟩, HB⟩
  case round =>
    clear HB
    obtain ⟨i, rfl, HK, HB⟩ := hrel
    by_cases hi1 : i < (P.length : Int)
    · have hi0 := HK.out.2
      obtain ⟨ad0, e0, y0, y1⟩ := at_T60 (Kd.C_below HR0.out HB.out) i hi0 hi1
      cases e0
      have HQ := Aside0.mk (HK0.out i hi0 hi1)
      obtain ⟨n, f, hx⟩ : ∃ n f, rd_T60 P i = ⟨n, f⟩ := ⟨_, _, rfl⟩
      rw [hx] at y0 y1 HQ
      clear hx
      dsimp only at y0 y1
      have HQ' : Aside0 (1 ≤ n ∧ n ≤ 12 ∧ 0 ≤ f ∧ f ≤ 3 ∧ 3 * f + 1 ≤ n) := ⟨HQ.out⟩
      have hlt : decide (i < (P.length : Int)) = true := decide_eq_true hi1
      have p0_ := eq_true hi0
      have p1_ := eq_true hi1
      have hw1 : wrap64 (i + 1) = i + 1 := by have := HL.out; unfold wrap64; omega
      have t1 : decide (n < 1) = false := decide_eq_false (by have := HQ'.out; omega)
      have t2 : decide (12 < n) = false := decide_eq_false (by have := HQ'.out; omega)
      have t3 : decide (f < 0) = false := decide_eq_false (by have := HQ'.out; omega)
      have t4 : decide (3 < f) = false := decide_eq_false (by have := HQ'.out; omega)
      have t5 : wrap64 (3 * f) = 3 * f := by have := HQ'.out; unfold wrap64; omega
      have t6 : wrap64 (3 * f + 1) = 3 * f + 1 := by have := HQ'.out; unfold wrap64; omega
      have t7 : decide (n < 3 * f + 1) = false := decide_eq_false (by have := HQ'.out; omega)
      cases gk with
      | zero => exact absurd HK.out (by omega)
      | succ k1 =>
      go_wp2_with fail
      go_roundg k1
      case measure => have := HK.out; omega
      case rel => exact ⟨i + 1, (by first | rfl | rw [hw1]), ⟨by have := HK.out; omega⟩, ⟨by repeat (first | exact HB.out | apply below_alloc)⟩⟩
    · have hlt : decide (i < (P.length : Int)) = false := decide_eq_false hi1
      go_wp2_with fail
      go_ret
      exact ⟨rfl, HB.out⟩
end Go.Proofs.YtkhlndhleiaokaaDoor.MHo
namespace Go.Proofs.YtkhlndhleiaokaaDoor.MHo
open Go.RowKit Go.Proofs.YtkhlndhleiaokaaDoorW.PrintWords Go.Proofs.YtkhlndhleiaokaaDoorW.PrintLast Go.Proofs.YtkhlndhleiaokaaDoorW.PrintMore
attribute [local go_sem] mp_u32s mp_u32m mp_u8s mp_u8m max2_int min2_int max_two min_two max_three min_three max_four min_four   -- for this text's walks alone
set_option linter.unusedVariables false
set_option linter.unusedSimpArgs false

/-! ### bits_Mul64: function 71 -/
def bits_Mul64.f (a0 : Int) (a1 : Int) : Option (Int × Int) := some (IntKind.u64.wrap ((IntKind.u64.wrap ((IntKind.u64.wrap ((a0 / 4294967296) * (a1 / 4294967296))) + ((IntKind.u64.wrap ((IntKind.u64.wrap ((a0 / 4294967296) * (Go.bits .and .u64 a1 4294967295))) + ((IntKind.u64.wrap ((Go.bits .and .u64 a0 4294967295) * (Go.bits .and .u64 a1 4294967295))) / 4294967296))) / 4294967296))) + ((IntKind.u64.wrap ((Go.bits .and .u64 (IntKind.u64.wrap ((IntKind.u64.wrap ((a0 / 4294967296) * (Go.bits .and .u64 a1 4294967295))) + ((IntKind.u64.wrap ((Go.bits .and .u64 a0 4294967295) * (Go.bits .and .u64 a1 4294967295))) / 4294967296))) 4294967295) + (IntKind.u64.wrap ((Go.bits .and .u64 a0 4294967295) * (a1 / 4294967296))))) / 4294967296)), IntKind.u64.wrap (a0 * a1))
set_option maxHeartbeats 8000000 in
set_option maxRecDepth 100000 in
theorem bits_Mul64.calls (a0 : Int) (a1 : Int) (r1 : Int) (r2 : Int) (w : World) (h : bits_Mul64.f a0 a1 = some (r1, r2)) :
  Calls Tryd.prog 71 #[.int .u64 a0, .int .u64 a1] w fun e w' => e = .returned (.tuple #[.int .u64 r1, .int .u64 r2]) ∧ Drawn0 w w' := by
 have H : (some (IntKind.u64.wrap ((IntKind.u64.wrap ((IntKind.u64.wrap ((a0 / 4294967296) * (a1 / 4294967296))) + ((IntKind.u64.wrap ((IntKind.u64.wrap ((a0 / 4294967296) * (Go.bits .and .u64 a1 4294967295))) + ((IntKind.u64.wrap ((Go.bits .and .u64 a0 4294967295) * (Go.bits .and .u64 a1 4294967295))) / 4294967296))) / 4294967296))) + ((IntKind.u64.wrap ((Go.bits .and .u64 (IntKind.u64.wrap ((IntKind.u64.wrap ((a0 / 4294967296) * (Go.bits .and .u64 a1 4294967295))) + ((IntKind.u64.wrap ((Go.bits .and .u64 a0 4294967295) * (Go.bits .and .u64 a1 4294967295))) / 4294967296))) 4294967295) + (IntKind.u64.wrap ((Go.bits .and .u64 a0 4294967295) * (a1 / 4294967296))))) / 4294967296)), IntKind.u64.wrap (a0 * a1))) = some (r1, r2) := h
 clear h
 simp only [Option.some.injEq, Prod.mk.injEq] at H
 obtain ⟨rfl, rfl⟩ := H
 go_enter Tryd.func71, Tryd.ntmps71
 go_wp2
 go_ret2
 exact ⟨by first | rfl | (simp; done) | (simp [*]; done), by repeat (first | exact Drawn0.refl _ | apply Drawn0.step)⟩


/-! ### bits_Mul: function 60 -/
def bits_Mul.f (a0 : Int) (a1 : Int) : Option (Int × Int) := (bits_Mul64.f a0 a1).bind fun bt101 => (some (bt101.1, bt101.2))
set_option maxHeartbeats 8000000 in
set_option maxRecDepth 100000 in
theorem bits_Mul.calls (a0 : Int) (a1 : Int) (r1 : Int) (r2 : Int) (w : World) (h : bits_Mul.f a0 a1 = some (r1, r2)) :
  Calls Tryd.prog 60 #[.int .u64 a0, .int .u64 a1] w fun e w' => e = .returned (.tuple #[.int .u64 r1, .int .u64 r2]) ∧ Drawn0 w w' := by
 have H : ((bits_Mul64.f a0 a1).bind fun bt101 => (some (bt101.1, bt101.2))) = some (r1, r2) := h
 clear h
 replace H := Option.bind_eq_some_iff.mp H
 obtain ⟨⟨t101, t102⟩, A30, H⟩ := H
 replace H : (some (t101, t102)) = some (r1, r2) := H
 have A3 := Aside0.mk A30
 clear A30
 simp only [Option.some.injEq, Prod.mk.injEq] at H
 obtain ⟨rfl, rfl⟩ := H
 go_enter Tryd.func60, Tryd.ntmps60
 go_wp2_with (first | ((with_reducible refine gate_callee (f := 71) rfl ?_); refine goesL_ (some 25) rfl rfl Tryd.func71 (by kernel_rfl) rfl #[.int .u64 a0, .int .u64 a1] rfl (by (try simp only [List.map_toArray, List.map_cons, List.map_nil]); first | done | rfl | (simp only [List.length_drop, List.length_take]; rfl)) ?_; (with_reducible refine (bits_Mul64.calls a0 a1 t101 t102 _ A3.out).mono ?_); rintro e w' ⟨rfl, ⟨nd, rfl⟩⟩; refine ⟨_, rfl, ?_⟩))
 go_ret2
 exact ⟨by first | rfl | (simp; done) | (simp [*]; done), by repeat (first | exact Drawn0.refl _ | apply Drawn0.step)⟩

end Go.Proofs.YtkhlndhleiaokaaDoor.MHo
set_option linter.unusedVariables false
set_option linter.unusedSimpArgs false
namespace Go.Proofs.YtkhlndhleiaokaaDoor.MHo
open Go.RowKit Go.Proofs.YtkhlndhleiaokaaDoorW.PrintWords Go.Proofs.YtkhlndhleiaokaaDoorW.PrintLast Go.Proofs.YtkhlndhleiaokaaDoorW.PrintMore
theorem mul_one_ {n : Int} (h1 : 1 ≤ n) (h6 : n ≤ 6) : bits_Mul.f 1 n = some (0, n) := by
  rcases (show n = 1 ∨ n = 2 ∨ n = 3 ∨ n = 4 ∨ n = 5 ∨ n = 6 from by omega) with rfl | rfl | rfl | rfl | rfl | rfl <;> kernel_rfl
theorem blk_sets {t : Nat} {g : Nat} : ∀ (vs : List Value) (o : Nat) (w : World) (cur : Array Value), w.heap[g]? = some (.cells cur t (0, 0)) → o + vs.length ≤ cur.size →
    ∃ cur', (w.setCells g o vs).heap[g]? = some (.cells cur' t (0, 0)) ∧ cur'.size = cur.size ∧ (∀ j, j < o → cur'[j]? = cur[j]?) ∧ (∀ j v, vs[j]? = some v → cur'[o + j]? = some v)
  | [], o, w, cur, h, hl => ⟨cur, h, rfl, fun _ _ => rfl, fun j v hj => by simp at hj⟩
  | x :: vs, o, w, cur, h, hl => by
    simp only [List.length_cons] at hl
    have h1 := blk_set h o x
    obtain ⟨cur', h2, h3, h4, h5⟩ := blk_sets vs (o + 1) (w.setCell ⟨g, o, none⟩ x) _ h1 (by simp; omega)
    refine ⟨cur', h2, by rw [h3]; simp, fun j hj => ?_, fun j v hj => ?_⟩
    · rw [h4 j (by omega)]
      simp [Array.getElem?_setIfInBounds, show ¬ o = j by omega]
    · cases j with
      | zero =>
        simp at hj
        rw [Nat.add_zero, h4 o (by omega), ← hj]
        simp [Array.getElem?_setIfInBounds, show o < cur.size by omega]
      | succ j =>
        have := h5 j v (by simpa using hj)
        rw [show o + (j + 1) = o + 1 + j by omega]
        exact this
theorem below_sets {B g : Nat} {w0 : World} : ∀ (vs : List Value) (o : Nat) (w : World), Below B w0 w → B ≤ g → Below B w0 (w.setCells g o vs)
  | [], _, _, h, _ => h
  | v :: r, o, w, h, hb => below_sets r (o + 1) _ (h.setCell hb v) hb
/-- A row of the call's own: n cells, of which the first k tell v. -/
def Part (W : World) (B n k : Nat) (v : Int) : Prop := ∃ cur, W.heap[B]? = some (.cells cur 3 (0, 0)) ∧ cur.size = n ∧ ∀ j, j < k → cur[j]? = some (.int .i64 v)
theorem Part.more {W : World} {B n k m : Nat} {v : Int} (h : Part W B n k v) (hm : k + m ≤ n) : Part (W.setCells B k (List.replicate m (.int .i64 v))) B n (k + m) v := by
  obtain ⟨cur, h1, h2, h3⟩ := h
  obtain ⟨cur', g1, g2, g3, g4⟩ := blk_sets (List.replicate m (.int .i64 v)) k W cur h1 (by rw [List.length_replicate, h2]; exact hm)
  refine ⟨cur', g1, by rw [g2, h2], fun j hj => ?_⟩
  by_cases c : j < k
  · rw [g3 j c, h3 j c]
  · have := g4 (j - k) (.int .i64 v) (by rw [List.getElem?_replicate, if_pos (by omega)])
    rw [show k + (j - k) = j by omega] at this
    exact this
theorem Part.row {W : World} {B n : Nat} {v : Int} (h : Part W B n n v) (base : Nat) (hb : base ≤ B) (hn : n ≤ 1000) : Kd.R (Kd.int .i64) 3 W base (fun _ => True) (.slice (some ⟨B, 0, none⟩) n n) (List.replicate n v) := by
  obtain ⟨cur, h1, h2, h3⟩ := h
  refine Kd.R_of_own ?_ (fun _ _ => trivial)
  rw [List.length_replicate]
  refine ⟨by simp [encs], .inr ⟨B, n, cur, rfl, hb, h1, Nat.le_refl _, by unfold maxLen; omega, by rw [h2, Nat.mul_one], ?_⟩⟩
  apply List.ext_getElem?
  intro j
  by_cases hj : j < n
  · rw [List.getElem?_take, if_pos (by omega), Array.getElem?_toList, h3 j hj]
    simp [encs, hj]
  · rw [List.getElem?_take, if_neg (by omega)]
    symm
    rw [List.getElem?_eq_none_iff]
    simp [encs]
    omega
theorem Part.copy {W : World} {B n k : Nat} {v : Int} (h : Part W B n k v) (hk : k ≤ n) (c1 c2 : Nat) : (Builtin.copy_ #[29, 29] 3 #[.slice (some ⟨B, k, none⟩) (n - k) c1, .slice (some ⟨B, 0, none⟩) k c2]).run Tryd.prog W = .ok (goInt (Nat.min k (n - k))) (W.setCells B k (List.replicate (Nat.min k (n - k)) (.int .i64 v))) := by
  obtain ⟨cur, h1, h2, h3⟩ := h
  have hm1 : Nat.min k (n - k) ≤ k := Nat.min_le_left _ _
  have hm2 : Nat.min k (n - k) ≤ n - k := Nat.min_le_right _ _
  have := run_copy_cells (P := Tryd.prog) W 29 29 3 3 B k (n - k) c1 ⟨B, 0, none⟩ k c2 (List.replicate (Nat.min k (n - k)) (.int .i64 v)) Tryd.underlying29 (by kernel_rfl) (by rw [List.length_replicate])
    (fun j u hj => by
      rw [List.getElem?_replicate] at hj
      split at hj
      · rename_i hlt
        injection hj with hj
        subst hj
        have e : (⟨B, 0, none⟩ : Addr).add j = ⟨B, j, none⟩ := by simp [Addr.add]; intro h; omega
        rw [e]
        exact (blk_cell h1 j).trans (h3 j (by omega))
      · cases hj)
    (fun j hj => by
      rw [List.length_replicate] at hj
      rw [blk_cell h1]
      rw [Array.getElem?_eq_getElem (by omega)]
      rfl)
    (fun j hj => blk_frozen h1 _)
    (fun u hu => by rw [List.eq_of_mem_replicate hu]; rfl)
  rw [List.length_replicate] at this
  exact this
set_option maxHeartbeats 4000000 in
set_option maxRecDepth 4000 in
theorem repeat_walk (A0 : Option Addr) (c0 : Nat) (v : Int) (n : Nat) (w : World) (hr : Kd.C (Kd.int .i64) w A0 1 [v]) (h1 : 1 ≤ n) (h6 : n ≤ 6) :
    Calls Tryd.prog 48 #[.slice A0 1 c0, .int .i64 n] w fun e w' => ∃ u, e = .returned u ∧ Kd.R (Kd.int .i64) 3 w' w.heap.size (fun _ => True) u (List.replicate n v) ∧ Below w.heap.size w w' := by
  have HM := Aside0.mk (mul_one_ (n := (n : Int)) (by omega) (by omega))
  have hd0 : decide ((n : Int) < 0) = false := decide_eq_false (by omega)
  have hd1 : decide ((9223372036854775807 : Int) < (n : Int)) = false := decide_eq_false (by omega)
  have hm1 : (n : Int) % 18446744073709551616 = n := by omega
  have hm2 : wrap64 (n : Int) = n := by unfold wrap64; omega
  obtain ⟨ad, e, x0⟩ := Kd.at_int hr 0 (by omega) (by omega)
  cases e
  have HX := Aside0.mk x0
  have H1 := Aside0.mk h1
  have H6 := Aside0.mk h6
  clear hr x0 h1 h6
  go_enter Tryd.func48, Tryd.ntmps48
  go_wp2_with fail
  refine (bits_Mul.calls 1 (n : Int) 0 n _ HM.out).mono ?_
  rintro e w1 ⟨rfl, hD⟩
  have HB := Aside0.mk hD.below
  have hx1 : w1.cell? ad = some (.int .i64 v) := (hD.below.cell (p := ad) (block_lt_of_cell HX.out)).trans HX.out
  clear hD
  obtain ⟨i0, hi, hz⟩ := Option.map_eq_some_iff.1 info3
  simp only [Prod.mk.injEq] at hz
  have hmk := run_make (P := Tryd.prog) w1 29 3 i0 (.int .i64 0) Tryd.underlying29 hi hz.1 .i64 .i64 n n (by omega) (Int.le_refl _) (by rw [hz.2.2]; have := H6.out; omega) (by have := H6.out; omega)
  rw [hz.2.1, Nat.mul_one, Int.toNat_natCast] at hmk
  have hP0 : Part (w1.alloc (.cells (madeCells (Value.int IntKind.i64 0).cells n) 3)) w1.heap.size n 0 v := ⟨_, heap_alloc_new _ _, size_madeCells _ _, fun j hj => absurd hj (by omega)⟩
  have HB2 := Aside0.mk (below_alloc HB.out (Obj.cells (madeCells (Value.int IntKind.i64 0).cells n) 3))
  have hx2 : (w1.alloc (.cells (madeCells (Value.int IntKind.i64 0).cells n) 3)).cell? ad = some (.int .i64 v) := ((below_alloc (Below.refl w1.heap.size w1) _).cell (p := ad) (block_lt_of_cell hx1)).trans hx1
  generalize w1.alloc (.cells (madeCells (Value.int IntKind.i64 0).cells n) 3) = w2 at *
  have HBb := Aside0.mk HB.out.size
  generalize w1.heap.size = B at *
  have hcp : (Builtin.copy_ #[29, 29] 3 #[.slice (some ⟨B, 0, none⟩) n n, .slice (some ad) 1 c0]).run Tryd.prog w2 = .ok (goInt 1) (w2.setCells B 0 [.int .i64 v]) := by
    obtain ⟨cur, g1, g2, _⟩ := hP0
    refine run_copy_cells (P := Tryd.prog) w2 29 29 3 3 B 0 n n ad 1 c0 [.int .i64 v] Tryd.underlying29 (by kernel_rfl) (by show 1 = min 1 n; have := H1.out; omega) (fun j u hj => ?_) (fun j hj => ?_) (fun j hj => blk_frozen g1 _) (fun u hu => by rw [List.mem_singleton.1 hu]; rfl)
    · match j, hj with
      | 0, hj => simp at hj; rw [← hj]; exact hx2
      | j + 1, hj => simp at hj
    · have hj0 : j = 0 := by simpa using hj
      subst hj0
      rw [blk_cell g1, Array.getElem?_eq_getElem (by have := H1.out; omega)]
      rfl
  have hP1 := Aside0.mk (hP0.more (m := 1) (by have := H1.out; omega))
  have HB3 := Aside0.mk (below_sets [.int .i64 v] 0 w2 HB2.out HBb.out)
  have hsz : i0.size = 1 := hz.2.1
  have HCF := Aside0.mk (fun (k : Nat) (h0 : k < n) => cut_from (P := Tryd.prog) 29 3 .i64 Tryd.underlying29 hi 1 hsz (some ⟨B, 0, none⟩) n n (k : Int) (by omega) (by omega))
  have HCT := Aside0.mk (fun (k : Nat) (h0 : k ≤ n) => cut_to (P := Tryd.prog) 29 3 .i64 Tryd.underlying29 hi (some ⟨B, 0, none⟩) n n (k : Int) (by omega) (by omega) (Nat.le_refl _))
  clear hP0 hx1 hx2 hi hz
  go_wp2_with fail
  clear hcp hmk hm1 hm2 hd0 hd1 HX
  go_loopg [8] n (fun kq v8 w' => ∃ k : Nat, v8 = .int .i64 k ∧ Aside0 (n ≤ kq + k) ∧ Aside0 (1 ≤ k ∧ k ≤ n) ∧ Aside0 (Below w.heap.size w w') ∧ Aside0 (Part w' B n k v))
  case atStart => exact ⟨1, rfl, ⟨by omega⟩, ⟨by have := H1.out; omega⟩, HB3, hP1⟩
  case round =>
    clear HB3 hP1
    obtain ⟨k, rfl, HK, HKn, HBr, hPr⟩ := hrel
    by_cases hk : k < n
    · have hlt : decide ((k : Int) < (n : Int)) = true := decide_eq_true (by omega)
      have cf := HCF.out k hk
      have ct := HCT.out k (Nat.le_of_lt hk)
      rw [if_neg (by have := HKn.out; omega)] at cf
      simp only [Int.toNat_natCast, Option.map_some] at cf ct
      rw [show ((⟨B, 0, none⟩ : Addr).add (k * 1)) = ⟨B, k, none⟩ by simp [Addr.add]; intro h; omega] at cf
      have HBd := Aside0.mk (below_drew HBr.out)
      have hPd : Aside0 (Part wr.drew B n k v) := ⟨hPr.out⟩
      have hcp := hPd.out.copy (Nat.le_of_lt hk) (n - k) n
      obtain ⟨m, hm⟩ : ∃ m, Nat.min k (n - k) = m := ⟨_, rfl⟩
      have Hm := Aside0.mk hm
      have HmB : Aside0 (1 ≤ m ∧ k + m ≤ n) := ⟨by have := HKn.out; have h1 := Nat.min_le_right k (n - k); have h2 : Nat.min k (n - k) = min k (n - k) := rfl; omega⟩
      rw [hm] at hcp
      clear hm
      have hw : wrap64 ((k : Int) + (m : Int)) = (k : Int) + m := by have := HmB.out; have := H6.out; unfold wrap64; omega
      cases gk with
      | zero => exact absurd HK.out (by omega)
      | succ k1 =>
      go_wp2_with fail
      refine start_ (n := 10) (S := fun w' => True) (ds := []) #[false, false, false, false, false, false, false, false, false, false] (by kernel_rfl) rfl rfl trivial (fun hHeld => ?_)
      generalize wr.drew = wd at HBd hPd hcp hHeld ⊢
      refine pure_ (i := 0) (N := some 38) (v := ?_) (a' := ?_) #[true, false, false, false, false, false, false, false, false, false] rfl rfl (by kernel_rfl) (fun _ _ _ h => h) (Or.inl ⟨by rfl, ?_⟩) ?_ ?_
      rotate_left
      · intro w'
        go_simp
        with_reducible rfl
      rotate_left
      · simp only [Act.put, List.setIfInBounds_toArray, List.set_cons_zero, List.set_cons_succ, i64_w, i32_w]
        rfl
      refine pure_ (i := 1) (N := some 39) (v := ?_) (a' := ?_) #[true, true, false, false, false, false, false, false, false, false] rfl rfl (by kernel_rfl) (fun _ _ _ h => h) (Or.inl ⟨by rfl, ?_⟩) ?_ ?_
      rotate_left
      · intro w'
        go_simp
        with_reducible rfl
      rotate_left
      · simp only [Act.put, List.setIfInBounds_toArray, List.set_cons_zero, List.set_cons_succ, i64_w, i32_w]
        rfl
      refine pure_ (i := 2) (N := some 40) (v := ?_) (a' := ?_) #[true, true, true, false, false, false, false, false, false, false] rfl rfl (by kernel_rfl) (fun _ _ _ h => h) (Or.inl ⟨by rfl, ?_⟩) ?_ ?_
      rotate_left
      · intro w'
        go_simp
        with_reducible rfl
      rotate_left
      · simp only [Act.put, List.setIfInBounds_toArray, List.set_cons_zero, List.set_cons_succ, i64_w, i32_w]
        rfl
      refine pure_ (i := 3) (N := some 41) (v := ?_) (a' := ?_) #[true, true, true, true, false, false, false, false, false, false] rfl rfl (by kernel_rfl) (fun _ _ _ h => h) (Or.inl ⟨by rfl, ?_⟩) ?_ ?_
      rotate_left
      · intro w'
        go_simp
        with_reducible rfl
      rotate_left
      · simp only [Act.put, List.setIfInBounds_toArray, List.set_cons_zero, List.set_cons_succ, i64_w, i32_w]
        rfl
      refine pure_ (i := 4) (N := some 42) (v := ?_) (a' := ?_) #[true, true, true, true, true, false, false, false, false, false] rfl rfl (by kernel_rfl) (fun _ _ _ h => h) (Or.inl ⟨by rfl, ?_⟩) ?_ ?_
      rotate_left
      · intro w'
        go_simp
        with_reducible rfl
      rotate_left
      · simp only [Act.put, List.setIfInBounds_toArray, List.set_cons_zero, List.set_cons_succ, i64_w, i32_w]
        rfl
      refine pure_ (i := 5) (N := some 43) (v := ?_) (a' := ?_) #[true, true, true, true, true, true, false, false, false, false] rfl rfl (by kernel_rfl) (fun _ _ _ h => h) (Or.inl ⟨by rfl, ?_⟩) ?_ ?_
      rotate_left
      · intro w'
        go_simp
        with_reducible rfl
      rotate_left
      · simp only [Act.put, List.setIfInBounds_toArray, List.set_cons_zero, List.set_cons_succ, i64_w, i32_w]
        rfl
      refine pure_ (i := 6) (N := some 44) (v := ?_) (a' := ?_) #[true, true, true, true, true, true, true, false, false, false] rfl rfl (by kernel_rfl) (fun _ _ _ h => h) (Or.inl ⟨by rfl, ?_⟩) ?_ ?_
      rotate_left
      · intro w'
        go_simp
        with_reducible rfl
      rotate_left
      · simp only [Act.put, List.setIfInBounds_toArray, List.set_cons_zero, List.set_cons_succ, i64_w, i32_w]
        rfl
      refine one_ (i := 7) (N := some 45) #[true, true, true, true, true, true, true, true, false, false] rfl rfl (by kernel_rfl) (by decide) (fun K hK => ?_)
      refine value_ (w1 := ?_) (v := ?_) (by rfl) rfl ?_ ?_
      rotate_left 2
      · go_simp
        constructor
        · rfl
        · rfl
      have HB4 := Aside0.mk (below_sets (List.replicate m (.int .i64 v)) k wd HBd.out HBb.out)
      have hP4 := Aside0.mk (hPd.out.more (m := m) HmB.out.2)
      refine hK.out _ _ trivial (fun hHeld => ?_)
      clear hK K
      refine norm_ (a' := ?_) ?_ ?_
      rotate_left
      · show Act.put _ (some 45) _ = _
        simp only [Act.put, List.setIfInBounds_toArray, List.set_cons_zero, List.set_cons_succ, i64_w, i32_w]
        rfl
      refine pure_ (i := 8) (N := some 46) (v := ?_) (a' := ?_) #[true, true, true, true, true, true, true, true, true, false] rfl rfl (by kernel_rfl) (fun _ _ _ h => h) (Or.inl ⟨by rfl, ?_⟩) ?_ ?_
      rotate_left
      · intro w'
        go_simp
        with_reducible rfl
      rotate_left
      · simp only [Act.put, List.setIfInBounds_toArray, List.set_cons_zero, List.set_cons_succ, i64_w, i32_w]
        rfl
      refine pure_ (i := 9) (N := some 8) (v := ?_) (a' := ?_) #[true, true, true, true, true, true, true, true, true, true] rfl rfl (by kernel_rfl) (fun _ _ _ h => h) (Or.inl ⟨by rfl, ?_⟩) ?_ ?_
      rotate_left
      · intro w'
        go_simp
        with_reducible rfl
      rotate_left
      · simp only [Act.put, List.setIfInBounds_toArray, List.set_cons_zero, List.set_cons_succ, i64_w, i32_w]
        rfl
      refine done_ (by kernel_rfl) ?_
      go_wp2_with fail
      go_roundg k1
      case measure => have := HK.out; have := HmB.out; omega
      case rel => exact ⟨k + m, (by first | rfl | simp), ⟨by have := HK.out; have := HmB.out; omega⟩, ⟨by have := HmB.out; omega⟩, HB4, hP4⟩
    · have hkn : k = n := by have := HKn.out; omega
      subst hkn
      have hlt : decide ((k : Int) < (k : Int)) = false := decide_eq_false (by omega)
      go_wp2_with fail
      go_ret
      exact ⟨_, rfl, hPr.out.row _ HBb.out (by have := H6.out; omega), HBr.out⟩
end Go.Proofs.YtkhlndhleiaokaaDoor.MHo
namespace Go.Proofs.YtkhlndhleiaokaaDoor.MHo
open Go.RowKit Go.Proofs.YtkhlndhleiaokaaDoorW.PrintWords Go.Proofs.YtkhlndhleiaokaaDoorW.PrintLast Go.Proofs.YtkhlndhleiaokaaDoorW.PrintMore
attribute [local go_sem] mp_u32s mp_u32m mp_u8s mp_u8m max2_int min2_int max_two min_two max_three min_three max_four min_four   -- for this text's walks alone
set_option linter.unusedVariables false
set_option linter.unusedSimpArgs false

/-! ### slices_Repeat_int_int: function 48: of one number, one to six times -/
def slices_Repeat_int_int.f (l0 : List Int) (a1 : Int) : Option (List Int) := if l0.length = 1 ∧ 1 ≤ a1 ∧ a1 ≤ 6 then some (List.replicate a1.toNat (l0.headD 0)) else none
theorem slices_Repeat_int_int.calls (A0 : Option Addr) (c0 : Nat) (l0 : List Int) (a1 : Int) (r : List Int) (w : World) (hr0 : Kd.C (Kd.int .i64) w A0 l0.length l0) (hc0 : l0.length ≤ c0) (h : slices_Repeat_int_int.f l0 a1 = some r) :
  Calls Tryd.prog 48 #[.slice A0 l0.length c0, .int .i64 a1] w fun e w' => ∃ v, e = .returned v ∧ Kd.R (Kd.int .i64) 3 w' w.heap.size (fun _ => True) v r ∧ Below w.heap.size w w' := by
 unfold slices_Repeat_int_int.f at h
 split at h
 ·rename_i hc
  obtain ⟨h1, h2, h3⟩ := hc
  injection h with h
  subst h
  obtain ⟨n, hn⟩ := Int.eq_ofNat_of_zero_le (show 0 ≤ a1 by omega)
  subst hn
  match l0, h1 with
  | [v], _ => exact repeat_walk A0 c0 v n w hr0 (by omega) (by omega)
 ·cases h

end Go.Proofs.YtkhlndhleiaokaaDoor.MHo
