/- Texts of this claim, laid together by a program (wip/g/merge5.py): MWox35. -/
import Derived.Test.YtbefbhghmommhaaGreatDoorZWr4
import Derived.Test.YtbefbhghmommhaaGreatDoorZWr12
namespace Go.Proofs.YtbefbhghmommhaaGreatDoor.MWo
open Go.RowKit Go.Proofs.YtbefbhghmommhaaGreatDoorW.PrintWords Go.Proofs.YtbefbhghmommhaaGreatDoorW.PrintLast Go.Proofs.YtbefbhghmommhaaGreatDoorW.PrintMore
attribute [local go_sem] mp_u32s mp_u32m mp_u8s mp_u8m max2_int min2_int max_two min_two max_three min_three max_four min_four
set_option linter.unusedVariables false
set_option linter.unusedSimpArgs false
def bounds_Reckon.f (l0_0 : List (S68)) (l0_1 : List (S71)) (a0_2 : Int) (a0_3 : Int) (a0_4 : Int) (a0_5 : Int) (a0_6 : Int) (a0_7 : Int) (a0_8 : Int) (a0_9 : Int) (a0_10 : Int) (a0_11 : Int) (a0_12 : Int) : Option (Int × Int × Int × Int × Int × Int × Int) := (bounds_part.f (wrap64 ((wrap64 (2 * a0_6)) * a0_2))).bind fun t151 => ((bounds_part.f (wrap64 (a0_6 * a0_2))).bind fun t152 => ((bounds_part.f (wrap64 ((wrap64 (2 * (wrap64 (t151 + 1)))) * (wrap64 (a0_7 + a0_6))))).bind fun t154 => (some (wrap64 (t151 + 1), wrap64 (2 * (wrap64 (t151 + 1))), t152, wrap64 ((wrap64 ((wrap64 (2 * (wrap64 (2 * (wrap64 (t151 + 1)))))) + (wrap64 (2 * t152)))) + 2), wrap64 ((wrap64 ((wrap64 (2 * a0_8)) * (wrap64 ((wrap64 ((wrap64 (2 * (wrap64 (2 * (wrap64 (t151 + 1)))))) + (wrap64 (2 * t152)))) + 2)))) + (wrap64 (2 * (wrap64 (2 * (wrap64 (t151 + 1))))))), wrap64 ((wrap64 ((wrap64 ((wrap64 (2 * (wrap64 (t151 + 1)))) + (wrap64 (t151 + 1)))) + t154)) + 1), wrap64 (a0_8 + 1)))))
def bounds_Reckon.T2 : Bool × List (List Nat × List Nat) := (true, [([], []), ([0], [0]), ([], []), ([1, 2], [1, 2]), ([3], [3]), ([4], [4]), ([], []), ([], []), ([6, 7], [6, 7]), ([8, 4], [8]), ([], []), ([10], [10]), ([11], [11]), ([5, 9, 12], [5, 9, 12]), ([], []), ([14, 13, 9, 0, 1, 2, 3, 4, 5, 6, 7, 8, 9, 10, 11, 12, 13, 14], [13, 14])])
def bounds_Reckon.B2 : List Nat := [0, 1, 0, 7, 15, 31, 0, 0, 192, 479, 0, 1024, 3072, 8191, 0, 32767]
theorem bounds_Reckon.tab2 : rtab .any (opsOf Tryz.f66 2) = bounds_Reckon.T2 := by kernel_rfl
theorem bounds_Reckon.bits2 : waitsOk bounds_Reckon.T2.2 bounds_Reckon.B2 = true := by kernel_rfl
set_option maxHeartbeats 8000000 in
set_option maxRecDepth 100000 in
theorem bounds_Reckon.calls (A0_0 : Option Addr) (c0_0 : Nat) (l0_0 : List (S68)) (A0_1 : Option Addr) (c0_1 : Nat) (l0_1 : List (S71)) (a0_2 : Int) (a0_3 : Int) (a0_4 : Int) (a0_5 : Int) (a0_6 : Int) (a0_7 : Int) (a0_8 : Int) (a0_9 : Int) (a0_10 : Int) (a0_11 : Int) (a0_12 : Int) (r1 : Int) (r2 : Int) (r3 : Int) (r4 : Int) (r5 : Int) (r6 : Int) (r7 : Int) (w : World) (hr0_0 : Kd.C k68 w A0_0 l0_0.length l0_0) (hc0_0 : l0_0.length ≤ c0_0) (hr0_1 : Kd.C k71 w A0_1 l0_1.length l0_1) (hc0_1 : l0_1.length ≤ c0_1) (h : bounds_Reckon.f l0_0 l0_1 a0_2 a0_3 a0_4 a0_5 a0_6 a0_7 a0_8 a0_9 a0_10 a0_11 a0_12 = some (r1, r2, r3, r4, r5, r6, r7)) :
  Calls Tryz.prog 66 #[.agg #[.slice A0_0 l0_0.length c0_0, .slice A0_1 l0_1.length c0_1, .int .i64 a0_2, .int .i64 a0_3, .int .i64 a0_4, .int .i64 a0_5, .int .i64 a0_6, .int .i64 a0_7, .int .i64 a0_8, .int .i64 a0_9, .int .i64 a0_10, .int .i64 a0_11, .int .i64 a0_12]] w fun e w' => e = .returned (.agg #[.int .i64 r1, .int .i64 r2, .int .i64 r3, .int .i64 r4, .int .i64 r5, .int .i64 r6, .int .i64 r7]) ∧ Below w.heap.size w w' := by
 have hu25 := Tryz.underlying25
 have hu85 := Tryz.underlying85
 have HR0_0 := am hr0_0
 have HC0_0 := am hc0_0
 clear hr0_0 hc0_0
 have HR0_1 := am hr0_1
 have HC0_1 := am hc0_1
 clear hr0_1 hc0_1
 have HB := am (Below.refl w.heap.size w)
 have H : ((bounds_part.f (wrap64 ((wrap64 (2 * a0_6)) * a0_2))).bind fun t151 => ((bounds_part.f (wrap64 (a0_6 * a0_2))).bind fun t152 => ((bounds_part.f (wrap64 ((wrap64 (2 * (wrap64 (t151 + 1)))) * (wrap64 (a0_7 + a0_6))))).bind fun t154 => (some (wrap64 (t151 + 1), wrap64 (2 * (wrap64 (t151 + 1))), t152, wrap64 ((wrap64 ((wrap64 (2 * (wrap64 (2 * (wrap64 (t151 + 1)))))) + (wrap64 (2 * t152)))) + 2), wrap64 ((wrap64 ((wrap64 (2 * a0_8)) * (wrap64 ((wrap64 ((wrap64 (2 * (wrap64 (2 * (wrap64 (t151 + 1)))))) + (wrap64 (2 * t152)))) + 2)))) + (wrap64 (2 * (wrap64 (2 * (wrap64 (t151 + 1))))))), wrap64 ((wrap64 ((wrap64 ((wrap64 (2 * (wrap64 (t151 + 1)))) + (wrap64 (t151 + 1)))) + t154)) + 1), wrap64 (a0_8 + 1)))))) = some (r1, r2, r3, r4, r5, r6, r7) := h
 clear h
 replace H := bS H
 obtain ⟨t151, A20, H⟩ := H
 replace H : ((bounds_part.f (wrap64 (a0_6 * a0_2))).bind fun t152 => ((bounds_part.f (wrap64 ((wrap64 (2 * (wrap64 (t151 + 1)))) * (wrap64 (a0_7 + a0_6))))).bind fun t154 => (some (wrap64 (t151 + 1), wrap64 (2 * (wrap64 (t151 + 1))), t152, wrap64 ((wrap64 ((wrap64 (2 * (wrap64 (2 * (wrap64 (t151 + 1)))))) + (wrap64 (2 * t152)))) + 2), wrap64 ((wrap64 ((wrap64 (2 * a0_8)) * (wrap64 ((wrap64 ((wrap64 (2 * (wrap64 (2 * (wrap64 (t151 + 1)))))) + (wrap64 (2 * t152)))) + 2)))) + (wrap64 (2 * (wrap64 (2 * (wrap64 (t151 + 1))))))), wrap64 ((wrap64 ((wrap64 ((wrap64 (2 * (wrap64 (t151 + 1)))) + (wrap64 (t151 + 1)))) + t154)) + 1), wrap64 (a0_8 + 1))))) = some (r1, r2, r3, r4, r5, r6, r7) := H
 have A2 := am A20
 clear A20
 replace H := bS H
 obtain ⟨t152, A30, H⟩ := H
 replace H : ((bounds_part.f (wrap64 ((wrap64 (2 * (wrap64 (t151 + 1)))) * (wrap64 (a0_7 + a0_6))))).bind fun t154 => (some (wrap64 (t151 + 1), wrap64 (2 * (wrap64 (t151 + 1))), t152, wrap64 ((wrap64 ((wrap64 (2 * (wrap64 (2 * (wrap64 (t151 + 1)))))) + (wrap64 (2 * t152)))) + 2), wrap64 ((wrap64 ((wrap64 (2 * a0_8)) * (wrap64 ((wrap64 ((wrap64 (2 * (wrap64 (2 * (wrap64 (t151 + 1)))))) + (wrap64 (2 * t152)))) + 2)))) + (wrap64 (2 * (wrap64 (2 * (wrap64 (t151 + 1))))))), wrap64 ((wrap64 ((wrap64 ((wrap64 (2 * (wrap64 (t151 + 1)))) + (wrap64 (t151 + 1)))) + t154)) + 1), wrap64 (a0_8 + 1)))) = some (r1, r2, r3, r4, r5, r6, r7) := H
 have A3 := am A30
 clear A30
 replace H := bS H
 obtain ⟨t154, A40, H⟩ := H
 replace H : (some (wrap64 (t151 + 1), wrap64 (2 * (wrap64 (t151 + 1))), t152, wrap64 ((wrap64 ((wrap64 (2 * (wrap64 (2 * (wrap64 (t151 + 1)))))) + (wrap64 (2 * t152)))) + 2), wrap64 ((wrap64 ((wrap64 (2 * a0_8)) * (wrap64 ((wrap64 ((wrap64 (2 * (wrap64 (2 * (wrap64 (t151 + 1)))))) + (wrap64 (2 * t152)))) + 2)))) + (wrap64 (2 * (wrap64 (2 * (wrap64 (t151 + 1))))))), wrap64 ((wrap64 ((wrap64 ((wrap64 (2 * (wrap64 (t151 + 1)))) + (wrap64 (t151 + 1)))) + t154)) + 1), wrap64 (a0_8 + 1))) = some (r1, r2, r3, r4, r5, r6, r7) := H
 have A4 := am A40
 clear A40
 simp only [Option.some.injEq, Prod.mk.injEq] at H
 obtain ⟨rfl, rfl, rfl, rfl, rfl, rfl, rfl⟩ := H
 go_enter Tryz.func66, Tryz.ntmps66
 try go_wp2_with (first | ((with_reducible refine gate_dst (N := 1) rfl ?_); refine bxe 1 #[.slice A0_0 l0_0.length c0_0, .slice A0_1 l0_1.length c0_1, .int .i64 a0_2, .int .i64 a0_3, .int .i64 a0_4, .int .i64 a0_5, .int .i64 a0_6, .int .i64 a0_7, .int .i64 a0_8, .int .i64 a0_9, .int .i64 a0_10, .int .i64 a0_11, .int .i64 a0_12] 25 ?_; intro gb149 hg w5 hbox hb; have n0_ := am (below_step bl0 hb); have n1_ := am (hbox); have n2_ := am (gw0 hg); have n3_ := am (gw0 hg); clear HB; have HB := n0_; have BK149 := n1_; have GW149 := n2_; have GE149 := n3_; clear n0_ n1_ n2_ n3_; clear hb hbox hg) | ((with_reducible refine gate_dst (N := 2) rfl ?_); refine bxe 2 #[.int .i64 0, .int .i64 0, .int .i64 0, .int .i64 0, .int .i64 0, .int .i64 0, .int .i64 0] 85 ?_; intro gb150 hg w6 hbox hb; have n0_ := am (blk_below (bk BK149) hb); have n1_ := am (below_step (bl1 GE149) hb); have n2_ := am (hbox); have n3_ := am (gw1 hg GE149); have n4_ := am (gw1 hg GE149); have n5_ := am (nl hg BK149); have n6_ := am (nr hg BK149); clear BK149; clear HB; have BK149 := n0_; have HB := n1_; have BK150 := n2_; have GW150 := n3_; have GE150 := n4_; have NB149_150 := n5_; have NB150_149 := n6_; clear n0_ n1_ n2_ n3_ n4_ n5_ n6_; clear hb hbox hg))
 have n0_ := am (blk_drew BK149.out)
 have n1_ := am (blk_drew BK150.out)
 have n2_ := am (below_drew1 HB.out)
 clear BK149
 clear BK150
 clear HB
 have BK149 := n0_
 have BK150 := n1_
 have HB := n2_
 clear n0_ n1_ n2_
 refine start_ (n := 6) (S := fun w' => w'.cell? ⟨gb149, 0, none⟩ = some (.slice A0_0 l0_0.length c0_0) ∧ w'.cell? ⟨gb149, 1, none⟩ = some (.slice A0_1 l0_1.length c0_1) ∧ w'.cell? ⟨gb149, 2, none⟩ = some (.int .i64 a0_2) ∧ w'.cell? ⟨gb149, 3, none⟩ = some (.int .i64 a0_3) ∧ w'.cell? ⟨gb149, 4, none⟩ = some (.int .i64 a0_4) ∧ w'.cell? ⟨gb149, 5, none⟩ = some (.int .i64 a0_5) ∧ w'.cell? ⟨gb149, 6, none⟩ = some (.int .i64 a0_6) ∧ w'.cell? ⟨gb149, 7, none⟩ = some (.int .i64 a0_7) ∧ w'.cell? ⟨gb149, 8, none⟩ = some (.int .i64 a0_8) ∧ w'.cell? ⟨gb149, 9, none⟩ = some (.int .i64 a0_9) ∧ w'.cell? ⟨gb149, 10, none⟩ = some (.int .i64 a0_10) ∧ w'.cell? ⟨gb149, 11, none⟩ = some (.int .i64 a0_11) ∧ w'.cell? ⟨gb149, 12, none⟩ = some (.int .i64 a0_12)) (ds := []) #[false, false, false, false, false, false] (by kernel_rfl) rfl rfl (cellsK13 BK149.out) (fun hHeld => ?_)
 generalize w6.drew = w7 at BK149 BK150 HB hHeld ⊢
 refine pu 0 6 ?_
 refine pu 2 8 ?_
 refine tk13 1 7 ?_
 refine pu 4 3 ?_
 refine tk13 3 9 ?_
 refine pu 5 4 ?_
 refine done_ (by kernel_rfl) ?_
 try go_wp2
 have n0_ := am (blk_drew BK149.out)
 have n1_ := am (blk_drew BK150.out)
 have n2_ := am (below_drew1 HB.out)
 clear BK149
 clear BK150
 clear HB
 have BK149 := n0_
 have BK150 := n1_
 have HB := n2_
 clear n0_ n1_ n2_
 refine start_ (n := 16) (S := fun w' => w'.cell? ⟨gb149, 0, none⟩ = some (.slice A0_0 l0_0.length c0_0) ∧ w'.cell? ⟨gb149, 1, none⟩ = some (.slice A0_1 l0_1.length c0_1) ∧ w'.cell? ⟨gb149, 2, none⟩ = some (.int .i64 a0_2) ∧ w'.cell? ⟨gb149, 3, none⟩ = some (.int .i64 a0_3) ∧ w'.cell? ⟨gb149, 4, none⟩ = some (.int .i64 a0_4) ∧ w'.cell? ⟨gb149, 5, none⟩ = some (.int .i64 a0_5) ∧ w'.cell? ⟨gb149, 6, none⟩ = some (.int .i64 a0_6) ∧ w'.cell? ⟨gb149, 7, none⟩ = some (.int .i64 a0_7) ∧ w'.cell? ⟨gb149, 8, none⟩ = some (.int .i64 a0_8) ∧ w'.cell? ⟨gb149, 9, none⟩ = some (.int .i64 a0_9) ∧ w'.cell? ⟨gb149, 10, none⟩ = some (.int .i64 a0_10) ∧ w'.cell? ⟨gb149, 11, none⟩ = some (.int .i64 a0_11) ∧ w'.cell? ⟨gb149, 12, none⟩ = some (.int .i64 a0_12)) (ds := []) #[false, false, false, false, false, false, false, false, false, false, false, false, false, false, false, false] (by kernel_rfl) rfl rfl (cellsK13 BK149.out) (fun hHeld => ?_); refine with_tabW bounds_Reckon.tab2 bounds_Reckon.bits2 (fun HT_ HW_ => ?_)
 generalize w7.drew = w8 at BK149 BK150 HB hHeld ⊢
 refine pv HT_ 0 10 ?_
 refine pv HT_ 1 11 ?_
 refine pv HT_ 2 12 ?_
 refine pv HT_ 3 13 ?_
 refine pv HT_ 6 16 ?_
 refine pv HT_ 7 17 ?_
 refine pv HT_ 8 18 ?_
 refine pv HT_ 10 20 ?_
 refine tw13 HT_ HW_ 11 21 ?_
 refine pv HT_ 12 22 ?_
 refine join_ (σ := Nat) 1 #[true, true, true, true, true, true, true, true, true, true, true, true, true, true, true, false] (fun s_ => [(14, .int .i64 t151), (19, .int .i64 t152), (5, .pointer (some ⟨s_, 0, none⟩)), (15, .int .i64 (wrap64 (t151 + 1))), (23, .agg #[.int .i64 (wrap64 (t151 + 1)), .int .i64 0, .int .i64 t152, .int .i64 0, .int .i64 0, .int .i64 0, .int .i64 (wrap64 (a0_8 + 1))])]) (fun s_ w' => (w'.cell? ⟨gb149, 0, none⟩ = some (.slice A0_0 l0_0.length c0_0) ∧ w'.cell? ⟨gb149, 1, none⟩ = some (.slice A0_1 l0_1.length c0_1) ∧ w'.cell? ⟨gb149, 2, none⟩ = some (.int .i64 a0_2) ∧ w'.cell? ⟨gb149, 3, none⟩ = some (.int .i64 a0_3) ∧ w'.cell? ⟨gb149, 4, none⟩ = some (.int .i64 a0_4) ∧ w'.cell? ⟨gb149, 5, none⟩ = some (.int .i64 a0_5) ∧ w'.cell? ⟨gb149, 6, none⟩ = some (.int .i64 a0_6) ∧ w'.cell? ⟨gb149, 7, none⟩ = some (.int .i64 a0_7) ∧ w'.cell? ⟨gb149, 8, none⟩ = some (.int .i64 a0_8) ∧ w'.cell? ⟨gb149, 9, none⟩ = some (.int .i64 a0_9) ∧ w'.cell? ⟨gb149, 10, none⟩ = some (.int .i64 a0_10) ∧ w'.cell? ⟨gb149, 11, none⟩ = some (.int .i64 a0_11) ∧ w'.cell? ⟨gb149, 12, none⟩ = some (.int .i64 a0_12)) ∧ (w'.heap[gb149]? = some (.cells #[.slice A0_0 l0_0.length c0_0, .slice A0_1 l0_1.length c0_1, .int .i64 a0_2, .int .i64 a0_3, .int .i64 a0_4, .int .i64 a0_5, .int .i64 a0_6, .int .i64 a0_7, .int .i64 a0_8, .int .i64 a0_9, .int .i64 a0_10, .int .i64 a0_11, .int .i64 a0_12] 25 (0, 0))) ∧ (w'.heap[gb150]? = some (.cells #[.int .i64 0, .int .i64 0, .int .i64 0, .int .i64 0, .int .i64 0, .int .i64 0, .int .i64 0] 85 (0, 0))) ∧ (w'.heap[s_]? = some (.cells #[.int .i64 0, .int .i64 0, .int .i64 0, .int .i64 0, .int .i64 0, .int .i64 0, .int .i64 0] 85 (0, 0))) ∧ (w.heap.size ≤ s_) ∧ (w.heap.size ≤ s_) ∧ (gb149 ≠ s_) ∧ (s_ ≠ gb149) ∧ (gb150 ≠ s_) ∧ (s_ ≠ gb150) ∧ (Below w.heap.size w w')) ?_ ?_
 rotate_left
 ·intro hCont
  refine two_ (i := 4) (j := 14) (Ni := some 14) (Nj := some 5) #[true, true, true, true, true, false, true, true, true, false, true, true, true, false, false, false] #[true, true, true, true, false, false, true, true, true, false, true, true, true, false, true, false] rfl rfl rfl rfl (two_of HT_.out (by kernel_rfl)) (by decide) (by decide) (fun K hK => ?_) (fun K hK => ?_)
  ·skip
   refine goes_ Tryz.func80 (by kernel_rfl) rfl #[.int .i64 (wrap64 ((wrap64 (2 * a0_6)) * a0_2))] (by rfl) rfl rfl lm ?_
   with_reducible refine (bounds_part.calls (wrap64 ((wrap64 (2 * a0_6)) * a0_2)) t151 _ A2.out).mono ?_
   rintro e w' ⟨rfl, ⟨nd, rfl⟩⟩
   refine ⟨_, rfl, ?_⟩
   refine hK.out _ _ (cellsK13 BK149.out) (fun hHeld => ?_)
   clear hK K
   refine norm_ (a' := ?_) ?_ ?_
   rotate_left
   ·show Act.put _ (some 14) _ = _
    simp only [Act.put, sAa, sBb, sCc, i64_w, i32_w]
    rfl
   refine pv HT_ 5 15 ?_
   refine two_ (i := 9) (j := 14) (Ni := some 19) (Nj := some 5) #[true, true, true, true, true, true, true, true, true, true, true, true, true, false, false, false] #[true, true, true, true, true, true, true, true, true, false, true, true, true, false, true, false] rfl rfl rfl rfl (two_of HT_.out (by kernel_rfl)) (by decide) (by decide) (fun K hK => ?_) (fun K hK => ?_)
   ·skip
    refine goes_ Tryz.func80 (by kernel_rfl) rfl #[.int .i64 (wrap64 (a0_6 * a0_2))] (by rfl) rfl rfl lm ?_
    with_reducible refine (bounds_part.calls (wrap64 (a0_6 * a0_2)) t152 _ A3.out).mono ?_
    rintro e w' ⟨rfl, ⟨nd, rfl⟩⟩
    refine ⟨_, rfl, ?_⟩
    refine hK.out _ _ (cellsK13 BK149.out) (fun hHeld => ?_)
    clear hK K
    refine norm_ (a' := ?_) ?_ ?_
    rotate_left
    ·show Act.put _ (some 19) _ = _
     simp only [Act.put, sAa, sBb, sCc, i64_w, i32_w]
     rfl
    refine pv HT_ 13 23 ?_
    refine ov HT_ 14 5 (fun K hK => ?_)
    refine box_step ?hg (N := 5) ?hd (cs := #[.int .i64 0, .int .i64 0, .int .i64 0, .int .i64 0, .int .i64 0, .int .i64 0, .int .i64 0]) (t := 85) ?hr ?_; (case hd => rfl); (case hg => rfl); (case hr => first | (go_simp; done) | (go_simp; rfl))
    intro gb153 hg w9 hbox hb
    have n0_ := am (blk_below (bk BK149) hb)
    have n1_ := am (blk_below (bk BK150) hb)
    have n2_ := am (below_step (bl2 GE149 GE150) hb)
    have n3_ := am (hbox)
    have n4_ := am (gw2 hg GE149 GE150)
    have n5_ := am (gw2 hg GE149 GE150)
    have n6_ := am (nl hg BK149)
    have n7_ := am (nr hg BK149)
    have n8_ := am (nl hg BK150)
    have n9_ := am (nr hg BK150)
    clear BK149
    clear BK150
    clear HB
    have BK149 := n0_
    have BK150 := n1_
    have HB := n2_
    have BK153 := n3_
    have GW153 := n4_
    have GE153 := n5_
    have NB149_153 := n6_
    have NB153_149 := n7_
    have NB150_153 := n8_
    have NB153_150 := n9_
    clear n0_ n1_ n2_ n3_ n4_ n5_ n6_ n7_ n8_ n9_
    clear hb hbox hg
    refine hK.out _ _ (cellsK13 BK149.out) (fun hHeld => ?_)
    clear hK K
    refine norm_ (a' := ?_) ?_ ?_
    rotate_left
    ·show Act.put _ (some 5) _ = _
     simp only [Act.put, sAa, sBb, sCc, i64_w, i32_w]
     rfl
    exact norm_ (by simp only [putAll, Act.put, sAa, sBb, sCc]) (hCont (gb153) _ ⟨hHeld, (bk BK149), (bk BK150), (bk BK153), GW153.out, GE153.out, NB149_153.out, NB153_149.out, NB150_153.out, NB153_150.out, (bl3 GE149 GE150 GE153)⟩)
   ·skip
    refine box_step ?hg (N := 5) ?hd (cs := #[.int .i64 0, .int .i64 0, .int .i64 0, .int .i64 0, .int .i64 0, .int .i64 0, .int .i64 0]) (t := 85) ?hr ?_; (case hd => rfl); (case hg => rfl); (case hr => first | (go_simp; done) | (go_simp; rfl))
    intro gb153 hg w9 hbox hb
    have n0_ := am (blk_below (bk BK149) hb)
    have n1_ := am (blk_below (bk BK150) hb)
    have n2_ := am (below_step (bl2 GE149 GE150) hb)
    have n3_ := am (hbox)
    have n4_ := am (gw2 hg GE149 GE150)
    have n5_ := am (gw2 hg GE149 GE150)
    have n6_ := am (nl hg BK149)
    have n7_ := am (nr hg BK149)
    have n8_ := am (nl hg BK150)
    have n9_ := am (nr hg BK150)
    clear BK149
    clear BK150
    clear HB
    have BK149 := n0_
    have BK150 := n1_
    have HB := n2_
    have BK153 := n3_
    have GW153 := n4_
    have GE153 := n5_
    have NB149_153 := n6_
    have NB153_149 := n7_
    have NB150_153 := n8_
    have NB153_150 := n9_
    clear n0_ n1_ n2_ n3_ n4_ n5_ n6_ n7_ n8_ n9_
    clear hb hbox hg
    refine hK.out _ _ (cellsK13 BK149.out) (fun hHeld => ?_)
    clear hK K
    refine norm_ (a' := ?_) ?_ ?_
    rotate_left
    ·show Act.put _ (some 5) _ = _
     simp only [Act.put, sAa, sBb, sCc, i64_w, i32_w]
     rfl
    refine ov HT_ 9 19 (fun K hK => ?_)
    refine goes_ Tryz.func80 (by kernel_rfl) rfl #[.int .i64 (wrap64 (a0_6 * a0_2))] (by rfl) rfl rfl lm ?_
    with_reducible refine (bounds_part.calls (wrap64 (a0_6 * a0_2)) t152 _ A3.out).mono ?_
    rintro e w' ⟨rfl, ⟨nd, rfl⟩⟩
    refine ⟨_, rfl, ?_⟩
    refine hK.out _ _ (cellsK13 BK149.out) (fun hHeld => ?_)
    clear hK K
    refine norm_ (a' := ?_) ?_ ?_
    rotate_left
    ·show Act.put _ (some 19) _ = _
     simp only [Act.put, sAa, sBb, sCc, i64_w, i32_w]
     rfl
    refine pv HT_ 13 23 ?_
    exact norm_ (by simp only [putAll, Act.put, sAa, sBb, sCc]) (hCont (gb153) _ ⟨hHeld, (bk BK149), (bk BK150), (bk BK153), GW153.out, GE153.out, NB149_153.out, NB153_149.out, NB150_153.out, NB153_150.out, (bl3 GE149 GE150 GE153)⟩)
  ·skip
   refine box_step ?hg (N := 5) ?hd (cs := #[.int .i64 0, .int .i64 0, .int .i64 0, .int .i64 0, .int .i64 0, .int .i64 0, .int .i64 0]) (t := 85) ?hr ?_; (case hd => rfl); (case hg => rfl); (case hr => first | (go_simp; done) | (go_simp; rfl))
   intro gb153 hg w9 hbox hb
   have n0_ := am (blk_below (bk BK149) hb)
   have n1_ := am (blk_below (bk BK150) hb)
   have n2_ := am (below_step (bl2 GE149 GE150) hb)
   have n3_ := am (hbox)
   have n4_ := am (gw2 hg GE149 GE150)
   have n5_ := am (gw2 hg GE149 GE150)
   have n6_ := am (nl hg BK149)
   have n7_ := am (nr hg BK149)
   have n8_ := am (nl hg BK150)
   have n9_ := am (nr hg BK150)
   clear BK149
   clear BK150
   clear HB
   have BK149 := n0_
   have BK150 := n1_
   have HB := n2_
   have BK153 := n3_
   have GW153 := n4_
   have GE153 := n5_
   have NB149_153 := n6_
   have NB153_149 := n7_
   have NB150_153 := n8_
   have NB153_150 := n9_
   clear n0_ n1_ n2_ n3_ n4_ n5_ n6_ n7_ n8_ n9_
   clear hb hbox hg
   refine hK.out _ _ (cellsK13 BK149.out) (fun hHeld => ?_)
   clear hK K
   refine norm_ (a' := ?_) ?_ ?_
   rotate_left
   ·show Act.put _ (some 5) _ = _
    simp only [Act.put, sAa, sBb, sCc, i64_w, i32_w]
    rfl
   refine ov HT_ 4 14 (fun K hK => ?_)
   refine goes_ Tryz.func80 (by kernel_rfl) rfl #[.int .i64 (wrap64 ((wrap64 (2 * a0_6)) * a0_2))] (by rfl) rfl rfl lm ?_
   with_reducible refine (bounds_part.calls (wrap64 ((wrap64 (2 * a0_6)) * a0_2)) t151 _ A2.out).mono ?_
   rintro e w' ⟨rfl, ⟨nd, rfl⟩⟩
   refine ⟨_, rfl, ?_⟩
   refine hK.out _ _ (cellsK13 BK149.out) (fun hHeld => ?_)
   clear hK K
   refine norm_ (a' := ?_) ?_ ?_
   rotate_left
   ·show Act.put _ (some 14) _ = _
    simp only [Act.put, sAa, sBb, sCc, i64_w, i32_w]
    rfl
   refine pv HT_ 5 15 ?_
   refine ov HT_ 9 19 (fun K hK => ?_)
   refine goes_ Tryz.func80 (by kernel_rfl) rfl #[.int .i64 (wrap64 (a0_6 * a0_2))] (by rfl) rfl rfl lm ?_
   with_reducible refine (bounds_part.calls (wrap64 (a0_6 * a0_2)) t152 _ A3.out).mono ?_
   rintro e w' ⟨rfl, ⟨nd, rfl⟩⟩
   refine ⟨_, rfl, ?_⟩
   refine hK.out _ _ (cellsK13 BK149.out) (fun hHeld => ?_)
   clear hK K
   refine norm_ (a' := ?_) ?_ ?_
   rotate_left
   ·show Act.put _ (some 19) _ = _
    simp only [Act.put, sAa, sBb, sCc, i64_w, i32_w]
    rfl
   refine pv HT_ 13 23 ?_
   exact norm_ (by simp only [putAll, Act.put, sAa, sBb, sCc]) (hCont (gb153) _ ⟨hHeld, (bk BK149), (bk BK150), (bk BK153), GW153.out, GE153.out, NB149_153.out, NB153_149.out, NB150_153.out, NB153_150.out, (bl3 GE149 GE150 GE153)⟩)
 rintro gb153 w10 ⟨hS_, h0_, h1_, h2_, h3_, h4_, h5_, h6_, h7_, h8_, h9_⟩
 have n0_ : Aside0 (w10.heap[gb149]? = some (.cells #[.slice A0_0 l0_0.length c0_0, .slice A0_1 l0_1.length c0_1, .int .i64 a0_2, .int .i64 a0_3, .int .i64 a0_4, .int .i64 a0_5, .int .i64 a0_6, .int .i64 a0_7, .int .i64 a0_8, .int .i64 a0_9, .int .i64 a0_10, .int .i64 a0_11, .int .i64 a0_12] 25 (0, 0))) := ⟨h0_⟩
 have n1_ : Aside0 (w10.heap[gb150]? = some (.cells #[.int .i64 0, .int .i64 0, .int .i64 0, .int .i64 0, .int .i64 0, .int .i64 0, .int .i64 0] 85 (0, 0))) := ⟨h1_⟩
 have n2_ : Aside0 (w10.heap[gb153]? = some (.cells #[.int .i64 0, .int .i64 0, .int .i64 0, .int .i64 0, .int .i64 0, .int .i64 0, .int .i64 0] 85 (0, 0))) := ⟨h2_⟩
 have n3_ : Aside0 (w.heap.size ≤ gb153) := ⟨h3_⟩
 have n4_ : Aside0 (w.heap.size ≤ gb153) := ⟨h4_⟩
 have n5_ : Aside0 (gb149 ≠ gb153) := ⟨h5_⟩
 have n6_ : Aside0 (gb153 ≠ gb149) := ⟨h6_⟩
 have n7_ : Aside0 (gb150 ≠ gb153) := ⟨h7_⟩
 have n8_ : Aside0 (gb153 ≠ gb150) := ⟨h8_⟩
 have n9_ : Aside0 (Below w.heap.size w w10) := ⟨h9_⟩
 clear BK149
 clear BK150
 clear HB
 clear h0_ h1_ h2_ h3_ h4_ h5_ h6_ h7_ h8_ h9_
 have BK149 := n0_
 have BK150 := n1_
 have BK153 := n2_
 have GW153 := n3_
 have GE153 := n4_
 have NB149_153 := n5_
 have NB153_149 := n6_
 have NB150_153 := n7_
 have NB153_150 := n8_
 have HB := n9_
 clear n0_ n1_ n2_ n3_ n4_ n5_ n6_ n7_ n8_ n9_
 have hHeld : w10.cell? ⟨gb149, 0, none⟩ = some (.slice A0_0 l0_0.length c0_0) ∧ w10.cell? ⟨gb149, 1, none⟩ = some (.slice A0_1 l0_1.length c0_1) ∧ w10.cell? ⟨gb149, 2, none⟩ = some (.int .i64 a0_2) ∧ w10.cell? ⟨gb149, 3, none⟩ = some (.int .i64 a0_3) ∧ w10.cell? ⟨gb149, 4, none⟩ = some (.int .i64 a0_4) ∧ w10.cell? ⟨gb149, 5, none⟩ = some (.int .i64 a0_5) ∧ w10.cell? ⟨gb149, 6, none⟩ = some (.int .i64 a0_6) ∧ w10.cell? ⟨gb149, 7, none⟩ = some (.int .i64 a0_7) ∧ w10.cell? ⟨gb149, 8, none⟩ = some (.int .i64 a0_8) ∧ w10.cell? ⟨gb149, 9, none⟩ = some (.int .i64 a0_9) ∧ w10.cell? ⟨gb149, 10, none⟩ = some (.int .i64 a0_10) ∧ w10.cell? ⟨gb149, 11, none⟩ = some (.int .i64 a0_11) ∧ w10.cell? ⟨gb149, 12, none⟩ = some (.int .i64 a0_12) := hS_
 refine norm_ (a' := ?_) ?_ ?_
 rotate_left
 ·simp only [putAll, Act.put, sAa, sBb, sCc]
  rfl
 refine one_ (i := 15) (N := none) #[true, true, true, true, true, true, true, true, true, true, true, true, true, true, true, true] rfl rfl (one_of HT_.out (by kernel_rfl)) (by decide) (fun K hK => ?_)
 have hs11 : w10.cell? ⟨gb153, 0, none⟩ = some (.int .i64 0) := (blk_cell BK153.out 0).trans rfl
 have hfs11 := blk_frozen BK153.out 0
 have hns11_0 := NB149_153.out
 have hns11_1 := NB150_153.out
 have hms11_0 := NB153_149.out
 have hms11_1 := NB153_150.out
 have hs12 : w10.cell? ⟨gb153, 1, none⟩ = some (.int .i64 0) := (blk_cell BK153.out 1).trans rfl
 have hfs12 := blk_frozen BK153.out 1
 have hns12_0 := NB149_153.out
 have hns12_1 := NB150_153.out
 have hms12_0 := NB153_149.out
 have hms12_1 := NB153_150.out
 have hs13 : w10.cell? ⟨gb153, 2, none⟩ = some (.int .i64 0) := (blk_cell BK153.out 2).trans rfl
 have hfs13 := blk_frozen BK153.out 2
 have hns13_0 := NB149_153.out
 have hns13_1 := NB150_153.out
 have hms13_0 := NB153_149.out
 have hms13_1 := NB153_150.out
 have hs14 : w10.cell? ⟨gb153, 3, none⟩ = some (.int .i64 0) := (blk_cell BK153.out 3).trans rfl
 have hfs14 := blk_frozen BK153.out 3
 have hns14_0 := NB149_153.out
 have hns14_1 := NB150_153.out
 have hms14_0 := NB153_149.out
 have hms14_1 := NB153_150.out
 have hs15 : w10.cell? ⟨gb153, 4, none⟩ = some (.int .i64 0) := (blk_cell BK153.out 4).trans rfl
 have hfs15 := blk_frozen BK153.out 4
 have hns15_0 := NB149_153.out
 have hns15_1 := NB150_153.out
 have hms15_0 := NB153_149.out
 have hms15_1 := NB153_150.out
 have hs16 : w10.cell? ⟨gb153, 5, none⟩ = some (.int .i64 0) := (blk_cell BK153.out 5).trans rfl
 have hfs16 := blk_frozen BK153.out 5
 have hns16_0 := NB149_153.out
 have hns16_1 := NB150_153.out
 have hms16_0 := NB153_149.out
 have hms16_1 := NB153_150.out
 have hs17 : w10.cell? ⟨gb153, 6, none⟩ = some (.int .i64 0) := (blk_cell BK153.out 6).trans rfl
 have hfs17 := blk_frozen BK153.out 6
 have hns17_0 := NB149_153.out
 have hns17_1 := NB150_153.out
 have hms17_0 := NB153_149.out
 have hms17_1 := NB153_150.out
 refine skip_ (w1 := ?_) (by rfl) rfl ?_ ?_
 rotate_left
 ·go_simp
  rfl
 refine hK.out _ _ ⟨((cell_far (p := ⟨gb153, _, none⟩) NB149_153.out _).trans (((cell_far (p := ⟨gb153, _, none⟩) NB149_153.out _).trans (((cell_far (p := ⟨gb153, _, none⟩) NB149_153.out _).trans (((cell_far (p := ⟨gb153, _, none⟩) NB149_153.out _).trans (((cell_far (p := ⟨gb153, _, none⟩) NB149_153.out _).trans (((cell_far (p := ⟨gb153, _, none⟩) NB149_153.out _).trans (((cell_far (p := ⟨gb153, _, none⟩) NB149_153.out _).trans (hHeld.1)))))))))))))), ((cell_far (p := ⟨gb153, _, none⟩) NB149_153.out _).trans (((cell_far (p := ⟨gb153, _, none⟩) NB149_153.out _).trans (((cell_far (p := ⟨gb153, _, none⟩) NB149_153.out _).trans (((cell_far (p := ⟨gb153, _, none⟩) NB149_153.out _).trans (((cell_far (p := ⟨gb153, _, none⟩) NB149_153.out _).trans (((cell_far (p := ⟨gb153, _, none⟩) NB149_153.out _).trans (((cell_far (p := ⟨gb153, _, none⟩) NB149_153.out _).trans (hHeld.2.1)))))))))))))), ((cell_far (p := ⟨gb153, _, none⟩) NB149_153.out _).trans (((cell_far (p := ⟨gb153, _, none⟩) NB149_153.out _).trans (((cell_far (p := ⟨gb153, _, none⟩) NB149_153.out _).trans (((cell_far (p := ⟨gb153, _, none⟩) NB149_153.out _).trans (((cell_far (p := ⟨gb153, _, none⟩) NB149_153.out _).trans (((cell_far (p := ⟨gb153, _, none⟩) NB149_153.out _).trans (((cell_far (p := ⟨gb153, _, none⟩) NB149_153.out _).trans (hHeld.2.2.1)))))))))))))), ((cell_far (p := ⟨gb153, _, none⟩) NB149_153.out _).trans (((cell_far (p := ⟨gb153, _, none⟩) NB149_153.out _).trans (((cell_far (p := ⟨gb153, _, none⟩) NB149_153.out _).trans (((cell_far (p := ⟨gb153, _, none⟩) NB149_153.out _).trans (((cell_far (p := ⟨gb153, _, none⟩) NB149_153.out _).trans (((cell_far (p := ⟨gb153, _, none⟩) NB149_153.out _).trans (((cell_far (p := ⟨gb153, _, none⟩) NB149_153.out _).trans (hHeld.2.2.2.1)))))))))))))), ((cell_far (p := ⟨gb153, _, none⟩) NB149_153.out _).trans (((cell_far (p := ⟨gb153, _, none⟩) NB149_153.out _).trans (((cell_far (p := ⟨gb153, _, none⟩) NB149_153.out _).trans (((cell_far (p := ⟨gb153, _, none⟩) NB149_153.out _).trans (((cell_far (p := ⟨gb153, _, none⟩) NB149_153.out _).trans (((cell_far (p := ⟨gb153, _, none⟩) NB149_153.out _).trans (((cell_far (p := ⟨gb153, _, none⟩) NB149_153.out _).trans (hHeld.2.2.2.2.1)))))))))))))), ((cell_far (p := ⟨gb153, _, none⟩) NB149_153.out _).trans (((cell_far (p := ⟨gb153, _, none⟩) NB149_153.out _).trans (((cell_far (p := ⟨gb153, _, none⟩) NB149_153.out _).trans (((cell_far (p := ⟨gb153, _, none⟩) NB149_153.out _).trans (((cell_far (p := ⟨gb153, _, none⟩) NB149_153.out _).trans (((cell_far (p := ⟨gb153, _, none⟩) NB149_153.out _).trans (((cell_far (p := ⟨gb153, _, none⟩) NB149_153.out _).trans (hHeld.2.2.2.2.2.1)))))))))))))), ((cell_far (p := ⟨gb153, _, none⟩) NB149_153.out _).trans (((cell_far (p := ⟨gb153, _, none⟩) NB149_153.out _).trans (((cell_far (p := ⟨gb153, _, none⟩) NB149_153.out _).trans (((cell_far (p := ⟨gb153, _, none⟩) NB149_153.out _).trans (((cell_far (p := ⟨gb153, _, none⟩) NB149_153.out _).trans (((cell_far (p := ⟨gb153, _, none⟩) NB149_153.out _).trans (((cell_far (p := ⟨gb153, _, none⟩) NB149_153.out _).trans (hHeld.2.2.2.2.2.2.1)))))))))))))), ((cell_far (p := ⟨gb153, _, none⟩) NB149_153.out _).trans (((cell_far (p := ⟨gb153, _, none⟩) NB149_153.out _).trans (((cell_far (p := ⟨gb153, _, none⟩) NB149_153.out _).trans (((cell_far (p := ⟨gb153, _, none⟩) NB149_153.out _).trans (((cell_far (p := ⟨gb153, _, none⟩) NB149_153.out _).trans (((cell_far (p := ⟨gb153, _, none⟩) NB149_153.out _).trans (((cell_far (p := ⟨gb153, _, none⟩) NB149_153.out _).trans (hHeld.2.2.2.2.2.2.2.1)))))))))))))), ((cell_far (p := ⟨gb153, _, none⟩) NB149_153.out _).trans (((cell_far (p := ⟨gb153, _, none⟩) NB149_153.out _).trans (((cell_far (p := ⟨gb153, _, none⟩) NB149_153.out _).trans (((cell_far (p := ⟨gb153, _, none⟩) NB149_153.out _).trans (((cell_far (p := ⟨gb153, _, none⟩) NB149_153.out _).trans (((cell_far (p := ⟨gb153, _, none⟩) NB149_153.out _).trans (((cell_far (p := ⟨gb153, _, none⟩) NB149_153.out _).trans (hHeld.2.2.2.2.2.2.2.2.1)))))))))))))), ((cell_far (p := ⟨gb153, _, none⟩) NB149_153.out _).trans (((cell_far (p := ⟨gb153, _, none⟩) NB149_153.out _).trans (((cell_far (p := ⟨gb153, _, none⟩) NB149_153.out _).trans (((cell_far (p := ⟨gb153, _, none⟩) NB149_153.out _).trans (((cell_far (p := ⟨gb153, _, none⟩) NB149_153.out _).trans (((cell_far (p := ⟨gb153, _, none⟩) NB149_153.out _).trans (((cell_far (p := ⟨gb153, _, none⟩) NB149_153.out _).trans (hHeld.2.2.2.2.2.2.2.2.2.1)))))))))))))), ((cell_far (p := ⟨gb153, _, none⟩) NB149_153.out _).trans (((cell_far (p := ⟨gb153, _, none⟩) NB149_153.out _).trans (((cell_far (p := ⟨gb153, _, none⟩) NB149_153.out _).trans (((cell_far (p := ⟨gb153, _, none⟩) NB149_153.out _).trans (((cell_far (p := ⟨gb153, _, none⟩) NB149_153.out _).trans (((cell_far (p := ⟨gb153, _, none⟩) NB149_153.out _).trans (((cell_far (p := ⟨gb153, _, none⟩) NB149_153.out _).trans (hHeld.2.2.2.2.2.2.2.2.2.2.1)))))))))))))), ((cell_far (p := ⟨gb153, _, none⟩) NB149_153.out _).trans (((cell_far (p := ⟨gb153, _, none⟩) NB149_153.out _).trans (((cell_far (p := ⟨gb153, _, none⟩) NB149_153.out _).trans (((cell_far (p := ⟨gb153, _, none⟩) NB149_153.out _).trans (((cell_far (p := ⟨gb153, _, none⟩) NB149_153.out _).trans (((cell_far (p := ⟨gb153, _, none⟩) NB149_153.out _).trans (((cell_far (p := ⟨gb153, _, none⟩) NB149_153.out _).trans (hHeld.2.2.2.2.2.2.2.2.2.2.2.1)))))))))))))), ((cell_far (p := ⟨gb153, _, none⟩) NB149_153.out _).trans (((cell_far (p := ⟨gb153, _, none⟩) NB149_153.out _).trans (((cell_far (p := ⟨gb153, _, none⟩) NB149_153.out _).trans (((cell_far (p := ⟨gb153, _, none⟩) NB149_153.out _).trans (((cell_far (p := ⟨gb153, _, none⟩) NB149_153.out _).trans (((cell_far (p := ⟨gb153, _, none⟩) NB149_153.out _).trans (((cell_far (p := ⟨gb153, _, none⟩) NB149_153.out _).trans (hHeld.2.2.2.2.2.2.2.2.2.2.2.2))))))))))))))⟩ (fun hHeld => ?_)
 clear hK K
 refine done_ (done_of HT_.out (by kernel_rfl)) ?_
 obtain ⟨ed, hed⟩ : ∃ v_ : Int, wrap64 (t151 + 1) = v_ := ⟨_, rfl⟩
 obtain ⟨nr, hnr⟩ : ∃ v_ : Int, wrap64 (2 * ed) = v_ := ⟨_, rfl⟩
 obtain ⟨n2, hn2⟩ : ∃ v_ : Int, wrap64 (2 * nr) = v_ := ⟨_, rfl⟩
 obtain ⟨s2, hs2⟩ : ∃ v_ : Int, wrap64 (2 * t152) = v_ := ⟨_, rfl⟩
 obtain ⟨ns, hns⟩ : ∃ v_ : Int, wrap64 (n2 + s2) = v_ := ⟨_, rfl⟩
 obtain ⟨st, hst⟩ : ∃ v_ : Int, wrap64 (ns + 2) = v_ := ⟨_, rfl⟩
 obtain ⟨ag2, hag2⟩ : ∃ v_ : Int, wrap64 (2 * a0_8) = v_ := ⟨_, rfl⟩
 obtain ⟨as_, has_⟩ : ∃ v_ : Int, wrap64 (ag2 * st) = v_ := ⟨_, rfl⟩
 obtain ⟨jp, hjp⟩ : ∃ v_ : Int, wrap64 (as_ + n2) = v_ := ⟨_, rfl⟩
 obtain ⟨ne, hne⟩ : ∃ v_ : Int, wrap64 (nr + ed) = v_ := ⟨_, rfl⟩
 obtain ⟨rd_, hrd_⟩ : ∃ v_ : Int, wrap64 (a0_7 + a0_6) = v_ := ⟨_, rfl⟩
 obtain ⟨x16, hx16⟩ : ∃ v_ : Int, wrap64 (nr * rd_) = v_ := ⟨_, rfl⟩
 obtain ⟨y17, hy17⟩ : ∃ v_ : Int, wrap64 (ne + t154) = v_ := ⟨_, rfl⟩
 obtain ⟨tk, htk⟩ : ∃ v_ : Int, wrap64 (y17 + 1) = v_ := ⟨_, rfl⟩
 obtain ⟨gn, hgn⟩ : ∃ v_ : Int, wrap64 (a0_8 + 1) = v_ := ⟨_, rfl⟩
 simp only [hed, hnr, hn2, hs2, hns, hst, hag2, has_, hjp, hne, hrd_, hx16, hy17, htk, hgn] at A4
 simp only [hed, hgn]
 have HW := am (And.intro hed (And.intro hnr (And.intro hn2 (And.intro hs2 (And.intro hns (And.intro hst (And.intro hag2 (And.intro has_ (And.intro hjp (And.intro hne (And.intro hrd_ (And.intro hx16 (And.intro hy17 (And.intro htk hgn))))))))))))))
 have BN : Aside0 (w10.heap[gb153]? = some (.cells #[.int .i64 0, .int .i64 0, .int .i64 0, .int .i64 0, .int .i64 0, .int .i64 0, .int .i64 0] 85)) := BK153
 have BC : Aside0 (w10.heap[gb149]? = some (.cells #[.slice A0_0 l0_0.length c0_0, .slice A0_1 l0_1.length c0_1, .int .i64 a0_2, .int .i64 a0_3, .int .i64 a0_4, .int .i64 a0_5, .int .i64 a0_6, .int .i64 a0_7, .int .i64 a0_8, .int .i64 a0_9, .int .i64 a0_10, .int .i64 a0_11, .int .i64 a0_12] 25)) := BK149
 have BR : Aside0 (w10.heap[gb150]? = some (.cells #[.int .i64 0, .int .i64 0, .int .i64 0, .int .i64 0, .int .i64 0, .int .i64 0, .int .i64 0] 85)) := BK150
 clear BK153 BK149 BK150
 have BN_ : Aside0 ((((((((w10.setCell ⟨gb153, 0, none⟩ (.int .i64 ed)).setCell ⟨gb153, 1, none⟩ (.int .i64 0)).setCell ⟨gb153, 2, none⟩ (.int .i64 t152)).setCell ⟨gb153, 3, none⟩ (.int .i64 0)).setCell ⟨gb153, 4, none⟩ (.int .i64 0)).setCell ⟨gb153, 5, none⟩ (.int .i64 0)).setCell ⟨gb153, 6, none⟩ (.int .i64 gn)).heap[gb153]? = some (.cells #[.int .i64 ed, .int .i64 0, .int .i64 t152, .int .i64 0, .int .i64 0, .int .i64 0, .int .i64 gn] 85)) := ⟨by have h := (blk_set (blk_set (blk_set (blk_set (blk_set (blk_set (blk_set BN.out 0 (.int .i64 ed)) 1 (.int .i64 0)) 2 (.int .i64 t152)) 3 (.int .i64 0)) 4 (.int .i64 0)) 5 (.int .i64 0)) 6 (.int .i64 gn)); simpa using h⟩
 have BK_ : Aside0 (∀ k, k ≠ gb153 → (((((((w10.setCell ⟨gb153, 0, none⟩ (.int .i64 ed)).setCell ⟨gb153, 1, none⟩ (.int .i64 0)).setCell ⟨gb153, 2, none⟩ (.int .i64 t152)).setCell ⟨gb153, 3, none⟩ (.int .i64 0)).setCell ⟨gb153, 4, none⟩ (.int .i64 0)).setCell ⟨gb153, 5, none⟩ (.int .i64 0)).setCell ⟨gb153, 6, none⟩ (.int .i64 gn)).heap[k]? = w10.heap[k]?) := ⟨fun k hk => (Below.heap_setCell _ _ _ k hk).trans ((Below.heap_setCell _ _ _ k hk).trans ((Below.heap_setCell _ _ _ k hk).trans ((Below.heap_setCell _ _ _ k hk).trans ((Below.heap_setCell _ _ _ k hk).trans ((Below.heap_setCell _ _ _ k hk).trans (Below.heap_setCell _ _ _ k hk))))))⟩
 have HB_ : Aside0 (Below w.heap.size w (((((((w10.setCell ⟨gb153, 0, none⟩ (.int .i64 ed)).setCell ⟨gb153, 1, none⟩ (.int .i64 0)).setCell ⟨gb153, 2, none⟩ (.int .i64 t152)).setCell ⟨gb153, 3, none⟩ (.int .i64 0)).setCell ⟨gb153, 4, none⟩ (.int .i64 0)).setCell ⟨gb153, 5, none⟩ (.int .i64 0)).setCell ⟨gb153, 6, none⟩ (.int .i64 gn))) := ⟨(((((((HB.out.setCell GE153.out _).setCell GE153.out _).setCell GE153.out _).setCell GE153.out _).setCell GE153.out _).setCell GE153.out _).setCell GE153.out _)⟩
 generalize (((((((w10.setCell ⟨gb153, 0, none⟩ (.int .i64 ed)).setCell ⟨gb153, 1, none⟩ (.int .i64 0)).setCell ⟨gb153, 2, none⟩ (.int .i64 t152)).setCell ⟨gb153, 3, none⟩ (.int .i64 0)).setCell ⟨gb153, 4, none⟩ (.int .i64 0)).setCell ⟨gb153, 5, none⟩ (.int .i64 0)).setCell ⟨gb153, 6, none⟩ (.int .i64 gn)) = wA at *
 have BC_ := am ((BK_.out gb149 NB149_153.out).trans BC.out)
 have BR_ := am ((BK_.out gb150 NB150_153.out).trans BR.out)
 clear BN BC BR HB BK_
 have BN := BN_
 have BC := BC_
 have BR := BR_
 have HB := HB_
 clear BN_ BC_ BR_ HB_
 have qc0 : wA.cell? ⟨gb153, 0, none⟩ = some (.int .i64 ed) := (blk_cell BN.out 0).trans rfl
 have qf0 := blk_frozen BN.out 0
 have qc1 : wA.cell? ⟨gb153, 1, none⟩ = some (.int .i64 0) := (blk_cell BN.out 1).trans rfl
 have qf1 := blk_frozen BN.out 1
 have qc2 : wA.cell? ⟨gb153, 2, none⟩ = some (.int .i64 t152) := (blk_cell BN.out 2).trans rfl
 have qf2 := blk_frozen BN.out 2
 have qc3 : wA.cell? ⟨gb153, 3, none⟩ = some (.int .i64 0) := (blk_cell BN.out 3).trans rfl
 have qf3 := blk_frozen BN.out 3
 have qc4 : wA.cell? ⟨gb153, 4, none⟩ = some (.int .i64 0) := (blk_cell BN.out 4).trans rfl
 have qf4 := blk_frozen BN.out 4
 have qc5 : wA.cell? ⟨gb153, 5, none⟩ = some (.int .i64 0) := (blk_cell BN.out 5).trans rfl
 have qf5 := blk_frozen BN.out 5
 have qc6 : wA.cell? ⟨gb153, 6, none⟩ = some (.int .i64 gn) := (blk_cell BN.out 6).trans rfl
 have qf6 := blk_frozen BN.out 6
 have qx8 : wA.cell? ⟨gb149, 8, none⟩ = some (.int .i64 a0_8) := (blk_cell BC.out 8).trans rfl
 go_upto_region 4 with fail
 clear qc0 qf0 qc1 qf1 qc2 qf2 qc3 qf3 qc4 qf4 qc5 qf5 qc6 qf6 qx8
 have BN_ : Aside0 ((wA.setCell ⟨gb153, 1, none⟩ (.int .i64 nr)).heap[gb153]? = some (.cells #[.int .i64 ed, .int .i64 nr, .int .i64 t152, .int .i64 0, .int .i64 0, .int .i64 0, .int .i64 gn] 85)) := ⟨by have h := (blk_set BN.out 1 (.int .i64 nr)); simpa using h⟩
 have BK_ : Aside0 (∀ k, k ≠ gb153 → (wA.setCell ⟨gb153, 1, none⟩ (.int .i64 nr)).heap[k]? = wA.heap[k]?) := ⟨fun k hk => Below.heap_setCell _ _ _ k hk⟩
 have HB_ : Aside0 (Below w.heap.size w (wA.setCell ⟨gb153, 1, none⟩ (.int .i64 nr))) := ⟨(HB.out.setCell GE153.out _)⟩
 generalize (wA.setCell ⟨gb153, 1, none⟩ (.int .i64 nr)) = wB at *
 have BC_ := am ((BK_.out gb149 NB149_153.out).trans BC.out)
 have BR_ := am ((BK_.out gb150 NB150_153.out).trans BR.out)
 clear BN BC BR HB BK_
 have BN := BN_
 have BC := BC_
 have BR := BR_
 have HB := HB_
 clear BN_ BC_ BR_ HB_
 have qc0 : wB.cell? ⟨gb153, 0, none⟩ = some (.int .i64 ed) := (blk_cell BN.out 0).trans rfl
 have qf0 := blk_frozen BN.out 0
 have qc1 : wB.cell? ⟨gb153, 1, none⟩ = some (.int .i64 nr) := (blk_cell BN.out 1).trans rfl
 have qf1 := blk_frozen BN.out 1
 have qc2 : wB.cell? ⟨gb153, 2, none⟩ = some (.int .i64 t152) := (blk_cell BN.out 2).trans rfl
 have qf2 := blk_frozen BN.out 2
 have qc3 : wB.cell? ⟨gb153, 3, none⟩ = some (.int .i64 0) := (blk_cell BN.out 3).trans rfl
 have qf3 := blk_frozen BN.out 3
 have qc4 : wB.cell? ⟨gb153, 4, none⟩ = some (.int .i64 0) := (blk_cell BN.out 4).trans rfl
 have qf4 := blk_frozen BN.out 4
 have qc5 : wB.cell? ⟨gb153, 5, none⟩ = some (.int .i64 0) := (blk_cell BN.out 5).trans rfl
 have qf5 := blk_frozen BN.out 5
 have qc6 : wB.cell? ⟨gb153, 6, none⟩ = some (.int .i64 gn) := (blk_cell BN.out 6).trans rfl
 have qf6 := blk_frozen BN.out 6
 have qx8 : wB.cell? ⟨gb149, 8, none⟩ = some (.int .i64 a0_8) := (blk_cell BC.out 8).trans rfl
 go_upto_region 5 with fail
 clear qc0 qf0 qc1 qf1 qc2 qf2 qc3 qf3 qc4 qf4 qc5 qf5 qc6 qf6 qx8
 have BN_ : Aside0 ((wB.setCell ⟨gb153, 3, none⟩ (.int .i64 st)).heap[gb153]? = some (.cells #[.int .i64 ed, .int .i64 nr, .int .i64 t152, .int .i64 st, .int .i64 0, .int .i64 0, .int .i64 gn] 85)) := ⟨by have h := (blk_set BN.out 3 (.int .i64 st)); simpa using h⟩
 have BK_ : Aside0 (∀ k, k ≠ gb153 → (wB.setCell ⟨gb153, 3, none⟩ (.int .i64 st)).heap[k]? = wB.heap[k]?) := ⟨fun k hk => Below.heap_setCell _ _ _ k hk⟩
 have HB_ : Aside0 (Below w.heap.size w (wB.setCell ⟨gb153, 3, none⟩ (.int .i64 st))) := ⟨(HB.out.setCell GE153.out _)⟩
 generalize (wB.setCell ⟨gb153, 3, none⟩ (.int .i64 st)) = wC at *
 have BC_ := am ((BK_.out gb149 NB149_153.out).trans BC.out)
 have BR_ := am ((BK_.out gb150 NB150_153.out).trans BR.out)
 clear BN BC BR HB BK_
 have BN := BN_
 have BC := BC_
 have BR := BR_
 have HB := HB_
 clear BN_ BC_ BR_ HB_
 have qc0 : wC.cell? ⟨gb153, 0, none⟩ = some (.int .i64 ed) := (blk_cell BN.out 0).trans rfl
 have qf0 := blk_frozen BN.out 0
 have qc1 : wC.cell? ⟨gb153, 1, none⟩ = some (.int .i64 nr) := (blk_cell BN.out 1).trans rfl
 have qf1 := blk_frozen BN.out 1
 have qc2 : wC.cell? ⟨gb153, 2, none⟩ = some (.int .i64 t152) := (blk_cell BN.out 2).trans rfl
 have qf2 := blk_frozen BN.out 2
 have qc3 : wC.cell? ⟨gb153, 3, none⟩ = some (.int .i64 st) := (blk_cell BN.out 3).trans rfl
 have qf3 := blk_frozen BN.out 3
 have qc4 : wC.cell? ⟨gb153, 4, none⟩ = some (.int .i64 0) := (blk_cell BN.out 4).trans rfl
 have qf4 := blk_frozen BN.out 4
 have qc5 : wC.cell? ⟨gb153, 5, none⟩ = some (.int .i64 0) := (blk_cell BN.out 5).trans rfl
 have qf5 := blk_frozen BN.out 5
 have qc6 : wC.cell? ⟨gb153, 6, none⟩ = some (.int .i64 gn) := (blk_cell BN.out 6).trans rfl
 have qf6 := blk_frozen BN.out 6
 have qx8 : wC.cell? ⟨gb149, 8, none⟩ = some (.int .i64 a0_8) := (blk_cell BC.out 8).trans rfl
 go_upto_region 6 with fail
 clear qc0 qf0 qc1 qf1 qc2 qf2 qc3 qf3 qc4 qf4 qc5 qf5 qc6 qf6 qx8
 have BN_ : Aside0 ((wC.setCell ⟨gb153, 4, none⟩ (.int .i64 jp)).heap[gb153]? = some (.cells #[.int .i64 ed, .int .i64 nr, .int .i64 t152, .int .i64 st, .int .i64 jp, .int .i64 0, .int .i64 gn] 85)) := ⟨by have h := (blk_set BN.out 4 (.int .i64 jp)); simpa using h⟩
 have BK_ : Aside0 (∀ k, k ≠ gb153 → (wC.setCell ⟨gb153, 4, none⟩ (.int .i64 jp)).heap[k]? = wC.heap[k]?) := ⟨fun k hk => Below.heap_setCell _ _ _ k hk⟩
 have HB_ : Aside0 (Below w.heap.size w (wC.setCell ⟨gb153, 4, none⟩ (.int .i64 jp))) := ⟨(HB.out.setCell GE153.out _)⟩
 generalize (wC.setCell ⟨gb153, 4, none⟩ (.int .i64 jp)) = wD at *
 have BC_ := am ((BK_.out gb149 NB149_153.out).trans BC.out)
 have BR_ := am ((BK_.out gb150 NB150_153.out).trans BR.out)
 clear BN BC BR HB BK_
 have BN := BN_
 have BC := BC_
 have BR := BR_
 have HB := HB_
 clear BN_ BC_ BR_ HB_
 have BN_ : Aside0 (wD.drew.heap[gb153]? = some (.cells #[.int .i64 ed, .int .i64 nr, .int .i64 t152, .int .i64 st, .int .i64 jp, .int .i64 0, .int .i64 gn] 85)) := ⟨BN.out⟩
 have BC_ : Aside0 (wD.drew.heap[gb149]? = some (.cells #[.slice A0_0 l0_0.length c0_0, .slice A0_1 l0_1.length c0_1, .int .i64 a0_2, .int .i64 a0_3, .int .i64 a0_4, .int .i64 a0_5, .int .i64 a0_6, .int .i64 a0_7, .int .i64 a0_8, .int .i64 a0_9, .int .i64 a0_10, .int .i64 a0_11, .int .i64 a0_12] 25)) := ⟨BC.out⟩
 have BR_ : Aside0 (wD.drew.heap[gb150]? = some (.cells #[.int .i64 0, .int .i64 0, .int .i64 0, .int .i64 0, .int .i64 0, .int .i64 0, .int .i64 0] 85)) := ⟨BR.out⟩
 have HB_ : Aside0 (Below w.heap.size w wD.drew) := ⟨below_drew HB.out⟩
 clear BN BC BR HB
 have BN := BN_
 have BC := BC_
 have BR := BR_
 have HB := HB_
 clear BN_ BC_ BR_ HB_
 have d0 : wD.drew.cell? ⟨gb153, 0, none⟩ = some (.int .i64 ed) := (blk_cell BN.out 0).trans rfl
 have d1 : wD.drew.cell? ⟨gb153, 1, none⟩ = some (.int .i64 nr) := (blk_cell BN.out 1).trans rfl
 have d2 : wD.drew.cell? ⟨gb149, 7, none⟩ = some (.int .i64 a0_7) := (blk_cell BC.out 7).trans rfl
 have d3 : wD.drew.cell? ⟨gb149, 6, none⟩ = some (.int .i64 a0_6) := (blk_cell BC.out 6).trans rfl
 refine start_ (n := 18) (S := fun w' => w'.cell? ⟨gb153, 0, none⟩ = some (.int .i64 ed) ∧ w'.cell? ⟨gb153, 1, none⟩ = some (.int .i64 nr) ∧ w'.cell? ⟨gb149, 7, none⟩ = some (.int .i64 a0_7) ∧ w'.cell? ⟨gb149, 6, none⟩ = some (.int .i64 a0_6)) (ds := [17]) #[false, false, false, false, false, false, false, false, false, false, false, false, false, false, false, false, false, false] (by kernel_rfl) rfl rfl ⟨d0, d1, d2, d3⟩ (fun hHeld => ?_)
 generalize wD.drew = wd at BN BC BR HB d0 d1 d2 d3 hHeld ⊢
 refine pu 0 48 ?_
 refine pu 2 50 ?_
 refine pu 5 53 ?_
 refine pu 7 55 ?_
 refine pu 9 57 ?_
 refine tk4 1 49 ?_
 refine tk4 3 51 ?_
 refine pu 4 52 ?_
 refine tk4 6 54 ?_
 refine tk4 8 56 ?_
 refine tk4 10 58 ?_
 refine pu 11 59 ?_
 refine pu 12 60 ?_
 refine on 13 61 (fun K hK => ?_)
 refine goes_ Tryz.func80 (by kernel_rfl) rfl #[.int .i64 (wrap64 (nr * rd_))] (by rfl) rfl rfl lm ?_
 rw [hx16]
 with_reducible refine (bounds_part.calls x16 t154 _ A4.out).mono ?_
 rintro e wE ⟨rfl, hD⟩
 have hb := hD.below
 have BN_ := am ((hb.block gb153 (blk_lt BN.out)).trans BN.out)
 have BC_ := am ((hb.block gb149 (blk_lt BC.out)).trans BC.out)
 have BR_ := am ((hb.block gb150 (blk_lt BR.out)).trans BR.out)
 have HB_ := am (below_step HB.out hb)
 clear BN BC BR HB hb hD
 have BN := BN_
 have BC := BC_
 have BR := BR_
 have HB := HB_
 clear BN_ BC_ BR_ HB_
 have f0 : wE.cell? ⟨gb153, 0, none⟩ = some (.int .i64 ed) := (blk_cell BN.out 0).trans rfl
 have f1 : wE.cell? ⟨gb153, 1, none⟩ = some (.int .i64 nr) := (blk_cell BN.out 1).trans rfl
 have f2 : wE.cell? ⟨gb149, 7, none⟩ = some (.int .i64 a0_7) := (blk_cell BC.out 7).trans rfl
 have f3 : wE.cell? ⟨gb149, 6, none⟩ = some (.int .i64 a0_6) := (blk_cell BC.out 6).trans rfl
 have f5 : wE.cell? ⟨gb153, 5, none⟩ = some (.int .i64 0) := (blk_cell BN.out 5).trans rfl
 have fz5 := blk_frozen BN.out 5
 refine ⟨_, rfl, ?_⟩
 refine hK.out _ _ ⟨f0, f1, f2, f3⟩ (fun hHeld => ?_)
 clear hK K
 refine norm_ (a' := ?_) ?_ ?_
 rotate_left
 ·show Act.put _ (some 61) _ = _
  simp only [Act.put, sAa, sBb, sCc, i64_w, i32_w]
  rfl
 refine pu 14 62 ?_
 refine pu 15 63 ?_
 refine pu 16 64 ?_
 refine lan 17 (fun K hK => ?_)
 refine skip_ (w1 := ?_) (by rfl) rfl ?_ ?_
 rotate_left
 ·go_simp
  rfl
 refine hK.out _ _ ?_
 clear hK K
 refine done_ (by kernel_rfl) ?_
 clear f0 f1 f2 f3 f5 fz5
 (try simp only [hrd_, hx16, hne, hy17, htk])
 have BN_ : Aside0 ((wE.setCell ⟨gb153, 5, none⟩ (.int .i64 tk)).heap[gb153]? = some (.cells #[.int .i64 ed, .int .i64 nr, .int .i64 t152, .int .i64 st, .int .i64 jp, .int .i64 tk, .int .i64 gn] 85)) := ⟨by have h := (blk_set BN.out 5 (.int .i64 tk)); simpa using h⟩
 have BK_ : Aside0 (∀ k, k ≠ gb153 → (wE.setCell ⟨gb153, 5, none⟩ (.int .i64 tk)).heap[k]? = wE.heap[k]?) := ⟨fun k hk => Below.heap_setCell _ _ _ k hk⟩
 have HB_ : Aside0 (Below w.heap.size w (wE.setCell ⟨gb153, 5, none⟩ (.int .i64 tk))) := ⟨(HB.out.setCell GE153.out _)⟩
 generalize (wE.setCell ⟨gb153, 5, none⟩ (.int .i64 tk)) = wF at *
 have BC_ := am ((BK_.out gb149 NB149_153.out).trans BC.out)
 have BR_ := am ((BK_.out gb150 NB150_153.out).trans BR.out)
 clear BN BC BR HB BK_
 have BN := BN_
 have BC := BC_
 have BR := BR_
 have HB := HB_
 clear BN_ BC_ BR_ HB_
 have qc0 : wF.cell? ⟨gb153, 0, none⟩ = some (.int .i64 ed) := (blk_cell BN.out 0).trans rfl
 have qf0 := blk_frozen BN.out 0
 have qc1 : wF.cell? ⟨gb153, 1, none⟩ = some (.int .i64 nr) := (blk_cell BN.out 1).trans rfl
 have qf1 := blk_frozen BN.out 1
 have qc2 : wF.cell? ⟨gb153, 2, none⟩ = some (.int .i64 t152) := (blk_cell BN.out 2).trans rfl
 have qf2 := blk_frozen BN.out 2
 have qc3 : wF.cell? ⟨gb153, 3, none⟩ = some (.int .i64 st) := (blk_cell BN.out 3).trans rfl
 have qf3 := blk_frozen BN.out 3
 have qc4 : wF.cell? ⟨gb153, 4, none⟩ = some (.int .i64 jp) := (blk_cell BN.out 4).trans rfl
 have qf4 := blk_frozen BN.out 4
 have qc5 : wF.cell? ⟨gb153, 5, none⟩ = some (.int .i64 tk) := (blk_cell BN.out 5).trans rfl
 have qf5 := blk_frozen BN.out 5
 have qc6 : wF.cell? ⟨gb153, 6, none⟩ = some (.int .i64 gn) := (blk_cell BN.out 6).trans rfl
 have qf6 := blk_frozen BN.out 6
 have qx8 : wF.cell? ⟨gb149, 8, none⟩ = some (.int .i64 a0_8) := (blk_cell BC.out 8).trans rfl
 have z0 : wF.cell? ⟨gb150, 0, none⟩ = some (.int .i64 0) := (blk_cell BR.out 0).trans rfl
 have zf0 := blk_frozen BR.out 0
 have z1 : wF.cell? ⟨gb150, 1, none⟩ = some (.int .i64 0) := (blk_cell BR.out 1).trans rfl
 have zf1 := blk_frozen BR.out 1
 have z2 : wF.cell? ⟨gb150, 2, none⟩ = some (.int .i64 0) := (blk_cell BR.out 2).trans rfl
 have zf2 := blk_frozen BR.out 2
 have z3 : wF.cell? ⟨gb150, 3, none⟩ = some (.int .i64 0) := (blk_cell BR.out 3).trans rfl
 have zf3 := blk_frozen BR.out 3
 have z4 : wF.cell? ⟨gb150, 4, none⟩ = some (.int .i64 0) := (blk_cell BR.out 4).trans rfl
 have zf4 := blk_frozen BR.out 4
 have z5 : wF.cell? ⟨gb150, 5, none⟩ = some (.int .i64 0) := (blk_cell BR.out 5).trans rfl
 have zf5 := blk_frozen BR.out 5
 have z6 : wF.cell? ⟨gb150, 6, none⟩ = some (.int .i64 0) := (blk_cell BR.out 6).trans rfl
 have zf6 := blk_frozen BR.out 6
 have hnb_ := NB150_153.out
 have hnc_ := NB153_150.out
 go_wp2_with fail
 refine bodyPost_ret (results_cell_row rfl _ _ gb150 85 #[.int .i64 ed, .int .i64 nr, .int .i64 t152, .int .i64 st, .int .i64 jp, .int .i64 tk, .int .i64 gn] (0, 0) _ rfl (by have h := (blk_set (blk_set (blk_set (blk_set (blk_set (blk_set (blk_set BR.out 0 (.int .i64 ed)) 1 (.int .i64 nr)) 2 (.int .i64 t152)) 3 (.int .i64 st)) 4 (.int .i64 jp)) 5 (.int .i64 tk)) 6 (.int .i64 gn)); simpa using h) Tryz.underlying85 rfl (by kernel_rfl)) rfl ?_
 refine ⟨?_, (((((((HB.out.setCell GE150.out _).setCell GE150.out _).setCell GE150.out _).setCell GE150.out _).setCell GE150.out _).setCell GE150.out _).setCell GE150.out _)⟩
 simp only [hed, hnr, hn2, hs2, hns, hst, hag2, has_, hjp, hne, hrd_, hx16, hy17, htk, hgn]
end Go.Proofs.YtbefbhghmommhaaGreatDoor.MWo
