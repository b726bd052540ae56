/- Texts of this claim, laid together by a program (wip/g/merge5.py): MWox85. -/
import Derived.Test.YtbefbhghmommhaaGreatDoorZWd4
import Derived.Test.YtbefbhghmommhaaGreatDoorZWd8
import Derived.Test.YtbefbhghmommhaaGreatDoorZWd9
namespace Go.Proofs.YtbefbhghmommhaaGreatDoor.MWo
open Go.RowKit Go.Proofs.YtbefbhghmommhaaGreatDoorW.PrintWords Go.Proofs.YtbefbhghmommhaaGreatDoorW.PrintLast Go.Proofs.YtbefbhghmommhaaGreatDoorW.PrintMore
attribute [local go_sem] mp_u32s mp_u32m mp_u8s mp_u8m max2_int min2_int max_two min_two max_three min_three max_four min_four
set_option linter.unusedVariables false
set_option linter.unusedSimpArgs false
mutual
def dr26_Skew.j0 : Nat → List Int → List Int → Bool → Option (Int × Bool)
 | 0, _, _, _ => none
 | k + 1, x6, x7, x26 => if x26 = true then (some (0, false)) else (dr26_Skew.l0 k x6 x7 0 0)
def dr26_Skew.l0 : Nat → List Int → List Int → Int → Int → Option (Int × Bool)
 | 0, _, _, _, _ => none
 | k + 1, x6, x7, x8, x9 => if x9 < (x6.length : Int) then (dr26_Skew.l1 k x6 x7 x8 x9 0) else (some (x8, true))
def dr26_Skew.l1 : Nat → List Int → List Int → Int → Int → Int → Option (Int × Bool)
 | 0, _, _, _, _, _ => none
 | k + 1, x6, x7, x8, x9, x10 => if x10 < (x7.length : Int) then (if 0 ≤ x9 then (if x9 < (x6.length : Int) then (if 0 ≤ x10 then ((dr10_Spread.f k (([rd x6 x9, rd x7 x10] : List Int))).bind fun bt328 => (if bt328.2 = true then (dr26_Skew.l1 k x6 x7 (mx x8 bt328.1) x9 (wrap64 (x10 + 1))) else (some (0, false)))) else (none)) else (none)) else (none)) else (dr26_Skew.l0 k x6 x7 x8 (wrap64 (x9 + 1)))
end
def dr26_Skew.f (k : Nat) (l0_0 : List (S55)) (a0_1 : Bool) (a0_2 : Int) (l0_3 : List Int) (l1_0 : List (S55)) (a1_1 : Bool) (a1_2 : Int) (l1_3 : List Int) : Option (Int × Bool) := (dr26_synced.f k l0_0 a0_1 a0_2 l0_3).bind fun t311 => ((dr26_starts.f k t311).bind fun t314 => ((dr26_synced.f k l1_0 a1_1 a1_2 l1_3).bind fun t317 => ((dr26_starts.f k t317).bind fun t320 => (if (t314.length : Int) = 0 then (dr26_Skew.j0 k t314 t320 true) else (dr26_Skew.j0 k t314 t320 ((t320.length : Int) == 0))))))
def dr26_Skew.T1 : Bool × List (List Nat × List Nat) := (true, [([], []), ([0], [0]), ([1, 1], [1]), ([], []), ([3, 2], [3]), ([4, 4], [4]), ([2, 5, 0, 1, 2], [2]), ([5, 6, 0, 1, 2, 3, 4, 5, 6], [5])])
def dr26_Skew.B1 : List Nat := [0, 1, 3, 0, 15, 31, 63, 127]
theorem dr26_Skew.tab1 : rtab .any (opsOf Tryz.f19 1) = dr26_Skew.T1 := by kernel_rfl
theorem dr26_Skew.bits1 : waitsOk dr26_Skew.T1.2 dr26_Skew.B1 = true := by kernel_rfl
def dr26_Skew.T11 : Bool × List (List Nat × List Nat) := (true, [([], []), ([], []), ([0, 1], [0, 1]), ([2], [2]), ([], []), ([], []), ([4, 5], [4, 5]), ([6], [6]), ([3, 7], [3, 7]), ([8], [8]), ([9], [9]), ([10], [10]), ([10], [10]), ([11, 9, 0, 1, 2, 3, 4, 5, 6, 7, 8, 9, 10, 11], [11]), ([12, 13, 0, 1, 2, 3, 4, 5, 6, 7, 8, 9, 10, 11, 12, 13], [12])])
def dr26_Skew.B11 : List Nat := [0, 0, 3, 7, 0, 0, 48, 112, 255, 511, 1023, 2047, 2047, 4095, 16383]
theorem dr26_Skew.tab11 : rtab .any (opsOf Tryz.f19 11) = dr26_Skew.T11 := by kernel_rfl
theorem dr26_Skew.bits11 : waitsOk dr26_Skew.T11.2 dr26_Skew.B11 = true := by kernel_rfl
set_option maxHeartbeats 8000000 in
set_option maxRecDepth 100000 in
theorem dr26_Skew.calls (k : Nat) (A0_0 : Option Addr) (c0_0 : Nat) (l0_0 : List (S55)) (a0_1 : Bool) (a0_2 : Int) (A0_3 : Option Addr) (c0_3 : Nat) (l0_3 : List Int) (A1_0 : Option Addr) (c1_0 : Nat) (l1_0 : List (S55)) (a1_1 : Bool) (a1_2 : Int) (A1_3 : Option Addr) (c1_3 : Nat) (l1_3 : List Int) (r1 : Int) (r2 : Bool) (w : World) (hr0_0 : Kd.C k55 w A0_0 l0_0.length l0_0) (hc0_0 : l0_0.length ≤ c0_0) (hr0_3 : Kd.C (Kd.int .i64) w A0_3 l0_3.length l0_3) (hc0_3 : l0_3.length ≤ c0_3) (hr1_0 : Kd.C k55 w A1_0 l1_0.length l1_0) (hc1_0 : l1_0.length ≤ c1_0) (hr1_3 : Kd.C (Kd.int .i64) w A1_3 l1_3.length l1_3) (hc1_3 : l1_3.length ≤ c1_3) (h : dr26_Skew.f k l0_0 a0_1 a0_2 l0_3 l1_0 a1_1 a1_2 l1_3 = some (r1, r2)) :
  Calls Tryz.prog 19 #[.agg #[.slice A0_0 l0_0.length c0_0, .bool a0_1, .int .i64 a0_2, .slice A0_3 l0_3.length c0_3], .agg #[.slice A1_0 l1_0.length c1_0, .bool a1_1, .int .i64 a1_2, .slice A1_3 l1_3.length c1_3]] w fun e w' => e = .returned (.tuple #[.int .i64 r1, .bool r2]) ∧ Below w.heap.size w w' := by
 have hu37 := Tryz.underlying37
 have HR0_0 := am hr0_0
 have HC0_0 := am hc0_0
 clear hr0_0 hc0_0
 have HR0_3 := am hr0_3
 have HC0_3 := am hc0_3
 clear hr0_3 hc0_3
 have HR1_0 := am hr1_0
 have HC1_0 := am hc1_0
 clear hr1_0 hc1_0
 have HR1_3 := am hr1_3
 have HC1_3 := am hc1_3
 clear hr1_3 hc1_3
 have HB := am (Below.refl w.heap.size w)
 have H : ((dr26_synced.f k l0_0 a0_1 a0_2 l0_3).bind fun t311 => ((dr26_starts.f k t311).bind fun t314 => ((dr26_synced.f k l1_0 a1_1 a1_2 l1_3).bind fun t317 => ((dr26_starts.f k t317).bind fun t320 => (if (t314.length : Int) = 0 then (dr26_Skew.j0 k t314 t320 true) else (dr26_Skew.j0 k t314 t320 ((t320.length : Int) == 0))))))) = some (r1, r2) := h
 clear h
 replace H := bS H
 obtain ⟨t311, A30, H⟩ := H
 replace H : ((dr26_starts.f k t311).bind fun t314 => ((dr26_synced.f k l1_0 a1_1 a1_2 l1_3).bind fun t317 => ((dr26_starts.f k t317).bind fun t320 => (if (t314.length : Int) = 0 then (dr26_Skew.j0 k t314 t320 true) else (dr26_Skew.j0 k t314 t320 ((t320.length : Int) == 0)))))) = some (r1, r2) := H
 have A3 := am A30
 clear A30
 replace H := bS H
 obtain ⟨t314, A40, H⟩ := H
 replace H : ((dr26_synced.f k l1_0 a1_1 a1_2 l1_3).bind fun t317 => ((dr26_starts.f k t317).bind fun t320 => (if (t314.length : Int) = 0 then (dr26_Skew.j0 k t314 t320 true) else (dr26_Skew.j0 k t314 t320 ((t320.length : Int) == 0))))) = some (r1, r2) := H
 have A4 := am A40
 clear A40
 replace H := bS H
 obtain ⟨t317, A50, H⟩ := H
 replace H : ((dr26_starts.f k t317).bind fun t320 => (if (t314.length : Int) = 0 then (dr26_Skew.j0 k t314 t320 true) else (dr26_Skew.j0 k t314 t320 ((t320.length : Int) == 0)))) = some (r1, r2) := H
 have A5 := am A50
 clear A50
 replace H := bS H
 obtain ⟨t320, A60, H⟩ := H
 replace H : (if (t314.length : Int) = 0 then (dr26_Skew.j0 k t314 t320 true) else (dr26_Skew.j0 k t314 t320 ((t320.length : Int) == 0))) = some (r1, r2) := H
 have A6 := am A60
 clear A60
 have HC7 := am H
 clear H
 go_enter Tryz.func19, Tryz.ntmps19
 try go_wp2_with (first | ((with_reducible refine gate_dst (N := 2) rfl ?_); (try (refine gate_guard (by rfl) ?_; dsimp only)); refine bxe 2 #[.slice A0_0 l0_0.length c0_0, .bool a0_1, .int .i64 a0_2, .slice A0_3 l0_3.length c0_3] 37 ?_; intro gb309 hg w8 hbox hb; have n0_ := am (below_step bl0 hb); have n1_ := am (hbox); have n2_ := am (gw0 hg); have n3_ := am (gw0 hg); clear HB; have HB := n0_; have BK309 := n1_; have GW309 := n2_; have GE309 := n3_; clear n0_ n1_ n2_ n3_; clear hb hbox hg) | ((with_reducible refine gate_dst (N := 3) rfl ?_); (try (refine gate_guard (by rfl) ?_; dsimp only)); refine bxe 3 #[.slice A1_0 l1_0.length c1_0, .bool a1_1, .int .i64 a1_2, .slice A1_3 l1_3.length c1_3] 37 ?_; intro gb310 hg w9 hbox hb; have n0_ := am (blk_below (bk BK309) hb); have n1_ := am (below_step (bl1 GE309) hb); have n2_ := am (hbox); have n3_ := am (gw1 hg GE309); have n4_ := am (gw1 hg GE309); have n5_ := am (nl hg BK309); have n6_ := am (nr hg BK309); clear BK309; clear HB; have BK309 := n0_; have HB := n1_; have BK310 := n2_; have GW310 := n3_; have GE310 := n4_; have NB309_310 := n5_; have NB310_309 := n6_; clear n0_ n1_ n2_ n3_ n4_ n5_ n6_; clear hb hbox hg))
 have n0_ := am (blk_drew BK309.out)
 have n1_ := am (blk_drew BK310.out)
 have n2_ := am (below_drew1 HB.out)
 clear BK309
 clear BK310
 clear HB
 have BK309 := n0_
 have BK310 := n1_
 have HB := n2_
 clear n0_ n1_ n2_
 refine start_ (n := 8) (S := fun w' => w'.cell? ⟨gb309, 0, none⟩ = some (.slice A0_0 l0_0.length c0_0) ∧ w'.cell? ⟨gb309, 1, none⟩ = some (.bool a0_1) ∧ w'.cell? ⟨gb309, 2, none⟩ = some (.int .i64 a0_2) ∧ w'.cell? ⟨gb309, 3, none⟩ = some (.slice A0_3 l0_3.length c0_3) ∧ w'.cell? ⟨gb310, 0, none⟩ = some (.slice A1_0 l1_0.length c1_0) ∧ w'.cell? ⟨gb310, 1, none⟩ = some (.bool a1_1) ∧ w'.cell? ⟨gb310, 2, none⟩ = some (.int .i64 a1_2) ∧ w'.cell? ⟨gb310, 3, none⟩ = some (.slice A1_3 l1_3.length c1_3)) (ds := []) #[false, false, false, false, false, false, false, false] (by kernel_rfl) rfl rfl ⟨(blk_cell BK309.out 0).trans rfl, (blk_cell BK309.out 1).trans rfl, (blk_cell BK309.out 2).trans rfl, (blk_cell BK309.out 3).trans rfl, (blk_cell BK310.out 0).trans rfl, (blk_cell BK310.out 1).trans rfl, (blk_cell BK310.out 2).trans rfl, (blk_cell BK310.out 3).trans rfl⟩ (fun hHeld => ?_); refine with_tabW dr26_Skew.tab1 dr26_Skew.bits1 (fun HT_ HW_ => ?_)
 generalize w9.drew = w10 at BK309 BK310 HB hHeld ⊢
 refine tw8 HT_ HW_ 0 13 ?_
 refine tw8 HT_ HW_ 3 16 ?_
 refine ov HT_ 1 14 (fun K hK => ?_)
 refine goes_ Tryz.func28 (by kernel_rfl) rfl #[.agg #[.slice A0_0 l0_0.length c0_0, .bool a0_1, .int .i64 a0_2, .slice A0_3 l0_3.length c0_3]] (by rfl) rfl rfl lm ?_
 with_reducible refine (dr26_synced.calls k (fun k_ => k_ < w.heap.size) _ _ l0_0 a0_1 a0_2 _ _ l0_3 t311 _ ?side1 ?side2 ?side3 A3.out).mono ?_
 (case side1 => exact Kd.V_mk HC0_0.out (Kd.F_below (Kd.C_F k55_heap HR0_0.out) (bl2 GE309 GE310)))
 (case side2 => exact kc HR0_3)
 (case side3 => exact HC0_3.out)
 rintro e w11 ⟨v312, rfl, ho0, hb⟩
 refine ⟨_, rfl, ?_⟩
 have n0_ := am (Kd.N_lower (Kd.N_mono (ok' := fun k_ => k_ ≠ gb309 ∧ k_ ≠ gb310) ho0 (fun k_ hk_ => ⟨Or.elim hk_ (fun hs_ => fun e_ => Nat.not_le.2 hs_ (by rw [e_]; exact GW309.out)) (fun hn_ => (Kd.freshB (g := gb309) (o := .cells #[.slice A0_0 l0_0.length c0_0, .bool a0_1, .int .i64 a0_2, .slice A0_3 l0_3.length c0_3] 37 (0, 0)) (bk BK309) k_ hn_)), Or.elim hk_ (fun hs_ => fun e_ => Nat.not_le.2 hs_ (by rw [e_]; exact GW310.out)) (fun hn_ => (Kd.freshB (g := gb310) (o := .cells #[.slice A1_0 l1_0.length c1_0, .bool a1_1, .int .i64 a1_2, .slice A1_3 l1_3.length c1_3] 37 (0, 0)) (bk BK310) k_ hn_))⟩)) (below_size (bl2 GE309 GE310)))
 have n1_ := am (blk_below (bk BK309) hb)
 have n2_ := am (blk_below (bk BK310) hb)
 have n3_ := am (below_step (bl2 GE309 GE310) hb)
 clear BK309
 clear BK310
 clear HB
 have HO313 := n0_
 have BK309 := n1_
 have BK310 := n2_
 have HB := n3_
 clear n0_ n1_ n2_ n3_
 (try clear hb)
 (try clear hb2)
 (try clear hk)
 (try clear hi)
 (try clear ho0)
 obtain ⟨Ao12, co12, eo12⟩ := Kd.N_slice HO313.out
 (first | subst eo12 | (injection eo12 with f1_ f2_ f3_; have f4_ := f1_.symm; have f5_ := f3_.symm; clear f1_ f2_ f3_; subst f4_; subst f5_))
 refine hK.out _ _ ⟨(blk_cell BK309.out 0).trans rfl, (blk_cell BK309.out 1).trans rfl, (blk_cell BK309.out 2).trans rfl, (blk_cell BK309.out 3).trans rfl, (blk_cell BK310.out 0).trans rfl, (blk_cell BK310.out 1).trans rfl, (blk_cell BK310.out 2).trans rfl, (blk_cell BK310.out 3).trans rfl⟩ (fun hHeld => ?_)
 clear hK K
 refine norm_ (a' := ?_) ?_ ?_
 rotate_left
 ·show Act.put _ (some 14) _ = _
  simp only [Act.put, sAa, sBb, sCc, i64_w, i32_w]
  rfl
 refine ov HT_ 2 15 (fun K hK => ?_)
 refine goes_ Tryz.func34 (by kernel_rfl) rfl #[.slice Ao12 t311.length co12] (by rfl) rfl rfl lm ?_
 with_reducible refine (dr26_starts.calls k _ _ t311 t314 _ ?side1 ?side2 A4.out).mono ?_
 (case side1 => exact kg (Kd.N_reads' HO313.out).2.2)
 (case side2 => exact (Kd.N_reads' HO313.out).2.1)
 rintro e w13 ⟨v315, rfl, ho0, hb⟩
 refine ⟨_, rfl, ?_⟩
 have n0_ := am (Kd.N_elder' (kn HO313.out) (Kd.R_base ho0) hb)
 have n1_ := am (Kd.R_lower ho0 (below_size (bl2 GE309 GE310)))
 have n2_ := am (blk_below (bk BK309) hb)
 have n3_ := am (blk_below (bk BK310) hb)
 have n4_ := am (below_step (bl2 GE309 GE310) hb)
 clear HO313
 clear BK309
 clear BK310
 clear HB
 have HO313 := n0_
 have HO316 := n1_
 have BK309 := n2_
 have BK310 := n3_
 have HB := n4_
 clear n0_ n1_ n2_ n3_ n4_
 (try clear hb)
 (try clear hb2)
 (try clear hk)
 (try clear hi)
 (try clear ho0)
 refine hK.out _ _ ⟨(blk_cell BK309.out 0).trans rfl, (blk_cell BK309.out 1).trans rfl, (blk_cell BK309.out 2).trans rfl, (blk_cell BK309.out 3).trans rfl, (blk_cell BK310.out 0).trans rfl, (blk_cell BK310.out 1).trans rfl, (blk_cell BK310.out 2).trans rfl, (blk_cell BK310.out 3).trans rfl⟩ (fun hHeld => ?_)
 clear hK K
 refine norm_ (a' := ?_) ?_ ?_
 rotate_left
 ·show Act.put _ (some 15) _ = _
  simp only [Act.put, sAa, sBb, sCc, i64_w, i32_w]
  rfl
 refine ov HT_ 4 17 (fun K hK => ?_)
 refine goes_ Tryz.func28 (by kernel_rfl) rfl #[.agg #[.slice A1_0 l1_0.length c1_0, .bool a1_1, .int .i64 a1_2, .slice A1_3 l1_3.length c1_3]] (by rfl) rfl rfl lm ?_
 with_reducible refine (dr26_synced.calls k (fun k_ => k_ < w.heap.size) _ _ l1_0 a1_1 a1_2 _ _ l1_3 t317 _ ?side1 ?side2 ?side3 A5.out).mono ?_
 (case side1 => exact Kd.V_mk HC1_0.out (Kd.F_below (Kd.C_F k55_heap HR1_0.out) (bl2 GE309 GE310)))
 (case side2 => exact kc HR1_3)
 (case side3 => exact HC1_3.out)
 rintro e w14 ⟨v318, rfl, ho0, hb⟩
 refine ⟨_, rfl, ?_⟩
 have n0_ := am (Kd.N_elder' (kn HO313.out) (Kd.N_base ho0) hb)
 have n1_ := am (Kd.R_below (kr HO316.out) hb)
 have n2_ := am (Kd.N_lower (Kd.N_mono (ok' := fun k_ => some k_ ≠ (.slice Ao12 t311.length co12 : Value).ownBlock ∧ some k_ ≠ (v315 : Value).ownBlock ∧ k_ ≠ gb309 ∧ k_ ≠ gb310) ho0 (fun k_ hk_ => ⟨Or.elim hk_ (fun hs_ => fun e_ => Nat.not_le.2 hs_ (Kd.N_base HO313.out k_ e_.symm)) (fun hn_ => (Kd.fresh' (Kd.N_lt (kn HO313.out)) k_ hn_)), Or.elim hk_ (fun hs_ => fun e_ => Nat.not_le.2 hs_ (Kd.R_base HO316.out k_ e_.symm)) (fun hn_ => (Kd.fresh' (Kd.R_lt (kr HO316.out)) k_ hn_)), Or.elim hk_ (fun hs_ => fun e_ => Nat.not_le.2 hs_ (by rw [e_]; exact GW309.out)) (fun hn_ => (Kd.freshB (g := gb309) (o := .cells #[.slice A0_0 l0_0.length c0_0, .bool a0_1, .int .i64 a0_2, .slice A0_3 l0_3.length c0_3] 37 (0, 0)) (bk BK309) k_ hn_)), Or.elim hk_ (fun hs_ => fun e_ => Nat.not_le.2 hs_ (by rw [e_]; exact GW310.out)) (fun hn_ => (Kd.freshB (g := gb310) (o := .cells #[.slice A1_0 l1_0.length c1_0, .bool a1_1, .int .i64 a1_2, .slice A1_3 l1_3.length c1_3] 37 (0, 0)) (bk BK310) k_ hn_))⟩)) (below_size (bl2 GE309 GE310)))
 have n3_ := am (blk_below (bk BK309) hb)
 have n4_ := am (blk_below (bk BK310) hb)
 have n5_ := am (below_step (bl2 GE309 GE310) hb)
 clear HO313
 clear HO316
 clear BK309
 clear BK310
 clear HB
 have HO313 := n0_
 have HO316 := n1_
 have HO319 := n2_
 have BK309 := n3_
 have BK310 := n4_
 have HB := n5_
 clear n0_ n1_ n2_ n3_ n4_ n5_
 (try clear hb)
 (try clear hb2)
 (try clear hk)
 (try clear hi)
 (try clear ho0)
 obtain ⟨Ao15, co15, eo15⟩ := Kd.N_slice HO319.out
 (first | subst eo15 | (injection eo15 with f1_ f2_ f3_; have f4_ := f1_.symm; have f5_ := f3_.symm; clear f1_ f2_ f3_; subst f4_; subst f5_))
 refine hK.out _ _ ⟨(blk_cell BK309.out 0).trans rfl, (blk_cell BK309.out 1).trans rfl, (blk_cell BK309.out 2).trans rfl, (blk_cell BK309.out 3).trans rfl, (blk_cell BK310.out 0).trans rfl, (blk_cell BK310.out 1).trans rfl, (blk_cell BK310.out 2).trans rfl, (blk_cell BK310.out 3).trans rfl⟩ (fun hHeld => ?_)
 clear hK K
 refine norm_ (a' := ?_) ?_ ?_
 rotate_left
 ·show Act.put _ (some 17) _ = _
  simp only [Act.put, sAa, sBb, sCc, i64_w, i32_w]
  rfl
 refine ov HT_ 5 18 (fun K hK => ?_)
 refine goes_ Tryz.func34 (by kernel_rfl) rfl #[.slice Ao15 t317.length co15] (by rfl) rfl rfl lm ?_
 with_reducible refine (dr26_starts.calls k _ _ t317 t320 _ ?side1 ?side2 A6.out).mono ?_
 (case side1 => exact kg (Kd.N_reads' HO319.out).2.2)
 (case side2 => exact (Kd.N_reads' HO319.out).2.1)
 rintro e w16 ⟨v321, rfl, ho0, hb⟩
 refine ⟨_, rfl, ?_⟩
 have n0_ := am (Kd.N_elder' (kn HO313.out) (Kd.R_base ho0) hb)
 have n1_ := am (Kd.R_elder' (kr HO316.out) (Kd.R_base ho0) hb)
 have n2_ := am (Kd.N_elder' (kn HO319.out) (Kd.R_base ho0) hb)
 have n3_ := am (Kd.R_lower (Kd.R_new' ho0 (Kd.R_lt (kr HO316.out))) (below_size (bl2 GE309 GE310)))
 have n4_ := am (blk_below (bk BK309) hb)
 have n5_ := am (blk_below (bk BK310) hb)
 have n6_ := am (below_step (bl2 GE309 GE310) hb)
 clear HO313
 clear HO316
 clear HO319
 clear BK309
 clear BK310
 clear HB
 have HO313 := n0_
 have HO316 := n1_
 have HO319 := n2_
 have HO322 := n3_
 have BK309 := n4_
 have BK310 := n5_
 have HB := n6_
 clear n0_ n1_ n2_ n3_ n4_ n5_ n6_
 (try clear hb)
 (try clear hb2)
 (try clear hk)
 (try clear hi)
 (try clear ho0)
 refine hK.out _ _ ⟨(blk_cell BK309.out 0).trans rfl, (blk_cell BK309.out 1).trans rfl, (blk_cell BK309.out 2).trans rfl, (blk_cell BK309.out 3).trans rfl, (blk_cell BK310.out 0).trans rfl, (blk_cell BK310.out 1).trans rfl, (blk_cell BK310.out 2).trans rfl, (blk_cell BK310.out 3).trans rfl⟩ (fun hHeld => ?_)
 clear hK K
 refine norm_ (a' := ?_) ?_ ?_
 rotate_left
 ·show Act.put _ (some 18) _ = _
  simp only [Act.put, sAa, sBb, sCc, i64_w, i32_w]
  rfl
 refine pv HT_ 6 6 ?_
 refine pv HT_ 7 7 ?_
 refine done_ (done_of HT_.out (by kernel_rfl)) ?_
 go_upto_region 2 with (fail)
 go_cut [26] (fun v26 wc => ∃ (kq : Nat) (x26_6 : Bool), v26 = .bool x26_6 ∧ Aside0 (dr26_Skew.j0 kq t314 t320 x26_6 = some (r1, r2)) ∧ Aside0 (kq ≤ k) ∧ Aside0 (Kd.R (Kd.int .i64) 2 wc w.heap.size (fun k_ => some k_ ≠ (v321 : Value).ownBlock) v315 t314) ∧ Aside0 (Kd.R (Kd.int .i64) 2 wc w.heap.size (fun k_ => some k_ ≠ (v315 : Value).ownBlock) v321 t320) ∧ Aside0 (wc.heap[gb309]? = some (.cells #[(.slice A0_0 l0_0.length c0_0), .bool a0_1, .int .i64 a0_2, (.slice A0_3 l0_3.length c0_3)] 37 (0, 0))) ∧ Aside0 (wc.heap[gb310]? = some (.cells #[(.slice A1_0 l1_0.length c1_0), .bool a1_1, .int .i64 a1_2, (.slice A1_3 l1_3.length c1_3)] 37 (0, 0))) ∧ Aside0 (Below w.heap.size w wc))
 case first =>
  have H := HC7.out
  clear HC7
  by_cases c17 : (t314.length : Int) = 0
  ·rw [if_pos c17] at H
   have c17b0 : ((t314.length : Int) == 0) = true := beq_iff_eq.mpr c17
   have c17b1 : ((t314.length : Int) != 0) = false := bne_eq_false_iff_eq.mpr c17
   clear c17
   (first | rw [c17b0] | (simp only [i64_w, i32_w]; rw [c17b0]) | skip)
   have H' := am H
   clear H
   obtain ⟨Ao18, co18, eo18⟩ := Kd.R_slice HO316.out
   subst eo18
   go_wp2
   go_meet
   case rel => exact ⟨_, (true), bx, H', ⟨by first | omega | exact Nat.le_refl _⟩, ⟨kr (Kd.R_mono HO316.out (fun _ hk => hk.2))⟩, ⟨kr (Kd.R_mono HO322.out (fun _ hk => hk.2))⟩, ⟨bk BK309⟩, ⟨bk BK310⟩, ⟨bl2 GE309 GE310⟩⟩
  ·rw [if_neg c17] at H
   have c17b0 : ((t314.length : Int) == 0) = false := beq_eq_false_iff_ne.mpr c17
   have c17b1 : ((t314.length : Int) != 0) = true := bne_iff_ne.mpr c17
   have c17b2 : ¬ (t314 = []) := fun h_ => c17 (by rw [h_]; rfl)
   (first | rw [c17b0] | (simp only [i64_w, i32_w]; rw [c17b0]) | skip)
   have H' := am H
   clear H
   obtain ⟨Ao19, co19, eo19⟩ := Kd.R_slice HO316.out
   subst eo19
   obtain ⟨Ao20, co20, eo20⟩ := Kd.R_slice HO322.out
   subst eo20
   go_wp2
   go_meet
   case rel => exact ⟨_, (((t320.length : Int) == 0)), bx, H', ⟨by first | omega | exact Nat.le_refl _⟩, ⟨kr (Kd.R_mono HO316.out (fun _ hk => hk.2))⟩, ⟨kr (Kd.R_mono HO322.out (fun _ hk => hk.2))⟩, ⟨bk BK309⟩, ⟨bk BK310⟩, ⟨bl2 GE309 GE310⟩⟩
 case rest =>
  clear HC7
  try clear c1
  try clear c2
  try clear p2
  try clear c3
  try clear c17
  try clear c17b0
  try clear c17b1
  try clear c17b2
  try clear c19
  obtain ⟨kq, x26_6, rfl, HA, HJ6, HO_6, HO_7, BK309, BK310, HB⟩ := hcut
  cases kq with
  | zero => exact absurd HA.out (by simp [dr26_Skew.j0])
  | succ kj6 =>
   have H := HA.out
   clear HA
   simp only [dr26_Skew.j0] at H
   by_cases c21 : x26_6 = true
   ·subst c21
    have H1 : (some (0, false)) = some (r1, r2) := by rw [if_pos rfl] at H; exact H
    clear H
    have H := H1
    clear H1
    simp only [Option.some.injEq, Prod.mk.injEq] at H
    obtain ⟨rfl, rfl⟩ := H
    go_wp2
    go_ret2
    exact ⟨ew, bl2 GE309 GE310⟩
   ·replace c21 := Bool.eq_false_iff.mpr c21
    subst c21
    have H1 : (dr26_Skew.l0 kj6 t314 t320 0 0) = some (r1, r2) := by rw [if_neg (show ¬ (false = true) by decide)] at H; exact H
    clear H
    have H := H1
    clear H1
    have H' := am H
    clear H
    go_wp2
    go_loopg [8, 9] kj6 (fun kq v8 v9 w' => ∃ (x8_2 : Int) (x9_2 : Int), v8 = .int .i64 x8_2 ∧ v9 = .int .i64 x9_2 ∧ Aside0 (dr26_Skew.l0 kq t314 t320 x8_2 x9_2 = some (r1, r2)) ∧ Aside0 (kq ≤ kj6) ∧ Aside0 (Kd.R (Kd.int .i64) 2 w' w.heap.size (fun k_ => some k_ ≠ (v321 : Value).ownBlock) v315 t314) ∧ Aside0 (Kd.R (Kd.int .i64) 2 w' w.heap.size (fun k_ => some k_ ≠ (v315 : Value).ownBlock) v321 t320) ∧ Aside0 (w'.heap[gb309]? = some (.cells #[(.slice A0_0 l0_0.length c0_0), .bool a0_1, .int .i64 a0_2, (.slice A0_3 l0_3.length c0_3)] 37 (0, 0))) ∧ Aside0 (w'.heap[gb310]? = some (.cells #[(.slice A1_0 l1_0.length c1_0), .bool a1_1, .int .i64 a1_2, (.slice A1_3 l1_3.length c1_3)] 37 (0, 0))) ∧ Aside0 (Below w.heap.size w w'))
    case atStart => exact ⟨(0), (0), bx, bx, H', ⟨Nat.le_refl _⟩, ⟨kr HO_6.out⟩, ⟨kr HO_7.out⟩, ⟨bk BK309⟩, ⟨bk BK310⟩, ⟨bl2 GE309 GE310⟩⟩
    case round =>
     clear H'
     try clear c1
     try clear c2
     try clear p2
     try clear c3
     try clear c17
     try clear c17b0
     try clear c17b1
     try clear c17b2
     try clear c19
     try clear c21
     try clear p2
     obtain ⟨x8_2, x9_2, rfl, rfl, HA, HK2, HO_6, HO_7, BK309, BK310, HB⟩ := hrel
     cases gk with
     | zero => exact absurd HA.out (by simp [dr26_Skew.l0])
     | succ k2 =>
      have H := HA.out
      clear HA
      simp only [dr26_Skew.l0] at H
      by_cases c22 : x9_2 < (t314.length : Int)
      ·rw [if_pos c22] at H
       have c22b0 : decide (x9_2 < (t314.length : Int)) = true := dT c22
       clear c22
       have H' := am H
       clear H
       obtain ⟨Ao23, co23, eo23⟩ := Kd.R_slice HO_6.out
       subst eo23
       go_wp2
       go_loopg [8, 10] k2 (fun kq v8 v10 w' => ∃ (x8_3 : Int) (x10_3 : Int), v8 = .int .i64 x8_3 ∧ v10 = .int .i64 x10_3 ∧ Aside0 (dr26_Skew.l1 kq t314 t320 x8_3 x9_2 x10_3 = some (r1, r2)) ∧ Aside0 (kq ≤ k2) ∧ Aside0 (Kd.R (Kd.int .i64) 2 w' w.heap.size (fun k_ => some k_ ≠ (v321 : Value).ownBlock) (.slice Ao23 t314.length co23) t314) ∧ Aside0 (Kd.R (Kd.int .i64) 2 w' w.heap.size (fun k_ => some k_ ≠ ((.slice Ao23 t314.length co23) : Value).ownBlock) v321 t320) ∧ Aside0 (w'.heap[gb309]? = some (.cells #[(.slice A0_0 l0_0.length c0_0), .bool a0_1, .int .i64 a0_2, (.slice A0_3 l0_3.length c0_3)] 37 (0, 0))) ∧ Aside0 (w'.heap[gb310]? = some (.cells #[(.slice A1_0 l1_0.length c1_0), .bool a1_1, .int .i64 a1_2, (.slice A1_3 l1_3.length c1_3)] 37 (0, 0))) ∧ Aside0 (Below w.heap.size w w'))
       case atStart => exact ⟨(x8_2), (0), bx, bx, H', ⟨Nat.le_refl _⟩, ⟨kr HO_6.out⟩, ⟨kr HO_7.out⟩, ⟨bk BK309⟩, ⟨bk BK310⟩, ⟨bl2 GE309 GE310⟩⟩
       case round =>
        clear H'
        try clear c1
        try clear c2
        try clear p2
        try clear c3
        try clear c17
        try clear c17b0
        try clear c17b1
        try clear c17b2
        try clear c19
        try clear c21
        try clear c22
        try clear c22b0
        try clear p2
        obtain ⟨x8_3, x10_3, rfl, rfl, HA, HK3, HO_6, HO_7, BK309, BK310, HB⟩ := hrel
        cases gk with
        | zero => exact absurd HA.out (by simp [dr26_Skew.l1])
        | succ k3 =>
         have H := HA.out
         clear HA
         simp only [dr26_Skew.l1] at H
         by_cases c24 : x10_3 < (t320.length : Int)
         ·rw [if_pos c24] at H
          have c24b0 : decide (x10_3 < (t320.length : Int)) = true := dT c24
          clear c24
          by_cases c25 : 0 ≤ x9_2
          ·rw [if_pos c25] at H
           have c25b0 : decide (0 ≤ x9_2) = true := dT c25
           clear c25
           by_cases c26 : x9_2 < (t314.length : Int)
           ·rw [if_pos c26] at H
            have c26b0 : decide (x9_2 < (t314.length : Int)) = true := dT c26
            clear c26
            by_cases c27 : 0 ≤ x10_3
            ·rw [if_pos c27] at H
             have c27b0 : decide (0 ≤ x10_3) = true := dT c27
             clear c27
             obtain ⟨y325, hy325⟩ : ∃ y_ : List Int, y_ = (([rd t314 x9_2, rd t320 x10_3] : List Int)) := ⟨_, rfl⟩
             replace H : ((dr10_Spread.f k3 y325).bind fun bt328 => (if bt328.2 = true then (dr26_Skew.l1 k3 t314 t320 (mx x8_3 bt328.1) x9_2 (wrap64 (x10_3 + 1))) else (some (0, false)))) = some (r1, r2) := by first | (rw [hy325]; with_reducible exact H) | (have H2_ := (Option.bind_some _ _).symm.trans H; rw [hy325]; with_reducible exact H2_) | (have H2_ := (Option.bind_some _ _).symm.trans H; with_reducible exact H2_) | with_reducible exact H | (rw [hy325]; exact H) | exact H
             have Ny325 := am hy325
             clear hy325
             replace H := bS H
             obtain ⟨⟨t328, t329⟩, A280, H⟩ := H
             replace H : (if t329 = true then (dr26_Skew.l1 k3 t314 t320 (mx x8_3 t328) x9_2 (wrap64 (x10_3 + 1))) else (some (0, false))) = some (r1, r2) := H
             have A28 := am A280
             clear A280
             by_cases c29 : t329 = true
             ·subst c29
              have H1 : (dr26_Skew.l1 k3 t314 t320 (mx x8_3 t328) x9_2 (wrap64 (x10_3 + 1))) = some (r1, r2) := by rw [if_pos rfl] at H; exact H
              clear H
              have H := H1
              clear H1
              obtain ⟨ji30, hji30⟩ : ∃ j_ : Int, (mx x8_3 t328) = j_ := ⟨_, rfl⟩
              replace H : (dr26_Skew.l1 k3 t314 t320 ji30 x9_2 (wrap64 (x10_3 + 1))) = some (r1, r2) := by first | (rw [hji30] at H; exact H) | (simp only [hji30] at H ⊢; exact H)
              (try rw [hji30] at A28)
              have hji30_ : (if x8_3 < t328 then t328 else x8_3) = ji30 := hji30
              have H' := am H
              clear H
              obtain ⟨Ao31, co31, eo31⟩ := Kd.R_slice HO_7.out
              subst eo31
              try go_wp2
              have n0_ := am (Kd.R_drew HO_6.out)
              have n1_ := am (Kd.R_drew HO_7.out)
              have n2_ := am (blk_drew BK309.out)
              have n3_ := am (blk_drew BK310.out)
              have n4_ := am (below_drew1 HB.out)
              clear HO_6
              clear HO_7
              clear BK309
              clear BK310
              clear HB
              have HO_6 := n0_
              have HO_7 := n1_
              have BK309 := n2_
              have BK310 := n3_
              have HB := n4_
              clear n0_ n1_ n2_ n3_ n4_
              have p323 : 0 ≤ (x9_2 : Int) := oT asm
              have q323 : x9_2 < (t314.length : Int) := oT asm
              obtain ⟨ad323, e323, hx323_0⟩ := Kd.at_int (Kd.R_reads' HO_6.out).2.2 x9_2 p323 q323
              cases e323
              replace p323 := eq_true p323
              replace q323 := eq_true q323
              have p324 : 0 ≤ (x10_3 : Int) := oT asm
              have q324 : x10_3 < (t320.length : Int) := oT asm
              obtain ⟨ad324, e324, hx324_0⟩ := Kd.at_int (Kd.R_reads' HO_7.out).2.2 x10_3 p324 q324
              cases e324
              replace p324 := eq_true p324
              replace q324 := eq_true q324
              refine start_ (n := 15) (S := fun w' => w'.cell? (ad323.add (x9_2).toNat) = some (.int .i64 (rd t314 x9_2)) ∧ w'.cell? (ad324.add (x10_3).toNat) = some (.int .i64 (rd t320 x10_3))) (ds := []) #[false, false, false, false, false, false, false, false, false, false, false, false, false, false, false] (by kernel_rfl) rfl rfl ⟨hx323_0, hx324_0⟩ (fun hHeld => ?_); refine with_tabW dr26_Skew.tab11 dr26_Skew.bits11 (fun HT_ HW_ => ?_)
              generalize wr.drew = w32 at HO_6 HO_7 BK309 BK310 HB hx323_0 hx324_0 hHeld ⊢
              refine pv HT_ 0 40 ?_
              refine pv HT_ 1 41 ?_
              refine pv HT_ 2 42 ?_
              refine pv HT_ 4 44 ?_
              refine pv HT_ 5 45 ?_
              refine pv HT_ 6 46 ?_
              refine tw2 HT_ HW_ 3 43 ?_
              refine tw2 HT_ HW_ 7 47 ?_
              refine ov HT_ 8 48 (fun K hK => ?_)
              refine Kd.R_lit_step (Kd.int .i64) _ 2 ?hg (N := 48) ?hd (xs := ([rd t314 x9_2, rd t320 x10_3] : List Int)) (inner := [.int .i64 (rd t314 x9_2), .int .i64 (rd t320 x10_3)]) (ok := fun _ => True) (okp := fun _ => True) ?hr ?hp (fun _ hk => hk) trivial (Below.refl _ _) (Nat.le_refl _) (by simp) ?_; (case hd => rfl); (case hg => rfl); (case hr => first | (go_simp; done) | (go_simp; rfl)); (case hp => exact (Reps.one (show Kd.M (Kd.int .i64) _ _ _ (rd t314 x9_2) [.int .i64 (rd t314 x9_2)] from rfl) (Reps.one (show Kd.M (Kd.int .i64) _ _ _ (rd t320 x10_3) [.int .i64 (rd t320 x10_3)] from rfl) (Reps.none _ _))))
              intro v326 w33 ho34 hb hg_ hnew_
              have HS0_ := (hb.cell (World.block_lt_of_cell? _ _ (hHeld.1))).trans (hHeld.1)
              have HS1_ := (hb.cell (World.block_lt_of_cell? _ _ (hHeld.2))).trans (hHeld.2)
              clear hg_ hnew_
              (first | rw [← Ny325.out] at ho34 | (simp only [Int.reduceToNat] at ho34; rw [← Ny325.out] at ho34))
              have n0_ := am (Kd.R_elder' (kr HO_6.out) (Kd.R_base ho34) hb)
              have n1_ := am (Kd.R_elder' (kr HO_7.out) (Kd.R_base ho34) hb)
              have n2_ := am (Kd.R_lower (Kd.R_new' (Kd.R_new' ho34 (Kd.R_lt (kr HO_6.out))) (Kd.R_lt (kr HO_7.out))) (below_size (bl2 GE309 GE310)))
              have n3_ := am (blk_below (bk BK309) hb)
              have n4_ := am (blk_below (bk BK310) hb)
              have n5_ := am (below_step (bl2 GE309 GE310) hb)
              clear HO_6
              clear HO_7
              clear BK309
              clear BK310
              clear HB
              have HO_6 := n0_
              have HO_7 := n1_
              have HO327 := n2_
              have BK309 := n3_
              have BK310 := n4_
              have HB := n5_
              clear n0_ n1_ n2_ n3_ n4_ n5_
              clear hb ho34
              obtain ⟨Ao35, co35, eo35⟩ := Kd.R_slice HO327.out
              (first | subst eo35 | (injection eo35 with f1_ f2_ f3_; have f4_ := f1_.symm; have f5_ := f3_.symm; clear f1_ f2_ f3_; subst f4_; subst f5_))
              refine hK.out _ _ ⟨HS0_, HS1_⟩ (fun hHeld => ?_)
              clear hK K
              refine norm_ (a' := ?_) ?_ ?_
              rotate_left
              ·show Act.put _ (some 48) _ = _
               simp only [Act.put, sAa, sBb, sCc, i64_w, i32_w]
               rfl
              refine ov HT_ 9 49 (fun K hK => ?_)
              refine goes_ Tryz.func35 (by kernel_rfl) rfl #[.slice Ao35 y325.length co35] (by rfl) rfl rfl lm ?_
              with_reducible refine (dr10_Spread.calls k3 _ _ y325 t328 true _ ?side1 ?side2 A28.out).mono ?_
              (case side1 => exact kg (Kd.R_reads' HO327.out).2.2)
              (case side2 => exact (Kd.R_reads' HO327.out).2.1)
              rintro e w36 ⟨rfl, hb⟩
              have HS0_ := (hb.cell (World.block_lt_of_cell? _ _ (hHeld.1))).trans (hHeld.1)
              have HS1_ := (hb.cell (World.block_lt_of_cell? _ _ (hHeld.2))).trans (hHeld.2)
              refine ⟨_, rfl, ?_⟩
              have n0_ := am (Kd.R_below (kr HO_6.out) hb)
              have n1_ := am (Kd.R_below (kr HO_7.out) hb)
              have n2_ := am (Kd.R_below (kr HO327.out) hb)
              have n3_ := am (blk_below (bk BK309) hb)
              have n4_ := am (blk_below (bk BK310) hb)
              have n5_ := am (below_step (bl2 GE309 GE310) hb)
              clear HO_6
              clear HO_7
              clear HO327
              clear BK309
              clear BK310
              clear HB
              have HO_6 := n0_
              have HO_7 := n1_
              have HO327 := n2_
              have BK309 := n3_
              have BK310 := n4_
              have HB := n5_
              clear n0_ n1_ n2_ n3_ n4_ n5_
              (try clear hb)
              (try clear hb2)
              (try clear hk)
              (try clear hi)
              refine hK.out _ _ ⟨HS0_, HS1_⟩ (fun hHeld => ?_)
              clear hK K
              refine norm_ (a' := ?_) ?_ ?_
              rotate_left
              ·show Act.put _ (some 49) _ = _
               simp only [Act.put, sAa, sBb, sCc, i64_w, i32_w]
               rfl
              refine pv HT_ 10 39 ?_
              refine pv HT_ 11 50 ?_
              refine pv HT_ 12 51 ?_
              refine pv HT_ 13 11 ?_
              refine pv HT_ 14 12 ?_
              refine done_ (done_of HT_.out (by kernel_rfl)) ?_
              try go_wp2
              go_roundg k3
              case measure => have := HJ6.out; have := HK2.out; have := HK3.out; omega
              case rel => exact ⟨(ji30), (wrap64 (x10_3 + 1)), (by first | rfl | (simp; done) | (simp only [← hji30] <;> (first | rfl | simp)) | (simp [*]; done)), bx, H', ⟨by have := HJ6.out; have := HK2.out; have := HK3.out; omega⟩, ⟨by (with_reducible repeat (first | apply Kd.R_alloc | apply Kd.R_drewN | apply Kd.R_drew)); exact Kd.R_mono HO_6.out (fun _ hk => hk.1)⟩, ⟨by (with_reducible repeat (first | apply Kd.R_alloc | apply Kd.R_drewN | apply Kd.R_drew)); exact Kd.R_mono HO_7.out (fun _ hk => hk.1)⟩, ⟨bk BK309⟩, ⟨bk BK310⟩, ⟨bl2 GE309 GE310⟩⟩
             ·replace c29 := Bool.eq_false_iff.mpr c29
              subst c29
              have H1 : (some (0, false)) = some (r1, r2) := by rw [if_neg (show ¬ (false = true) by decide)] at H; exact H
              clear H
              have H := H1
              clear H1
              simp only [Option.some.injEq, Prod.mk.injEq] at H
              obtain ⟨rfl, rfl⟩ := H
              obtain ⟨Ao37, co37, eo37⟩ := Kd.R_slice HO_7.out
              subst eo37
              try go_wp2
              have n0_ := am (Kd.R_drew HO_6.out)
              have n1_ := am (Kd.R_drew HO_7.out)
              have n2_ := am (blk_drew BK309.out)
              have n3_ := am (blk_drew BK310.out)
              have n4_ := am (below_drew1 HB.out)
              clear HO_6
              clear HO_7
              clear BK309
              clear BK310
              clear HB
              have HO_6 := n0_
              have HO_7 := n1_
              have BK309 := n2_
              have BK310 := n3_
              have HB := n4_
              clear n0_ n1_ n2_ n3_ n4_
              have p323 : 0 ≤ (x9_2 : Int) := oT asm
              have q323 : x9_2 < (t314.length : Int) := oT asm
              obtain ⟨ad323, e323, hx323_0⟩ := Kd.at_int (Kd.R_reads' HO_6.out).2.2 x9_2 p323 q323
              cases e323
              replace p323 := eq_true p323
              replace q323 := eq_true q323
              have p324 : 0 ≤ (x10_3 : Int) := oT asm
              have q324 : x10_3 < (t320.length : Int) := oT asm
              obtain ⟨ad324, e324, hx324_0⟩ := Kd.at_int (Kd.R_reads' HO_7.out).2.2 x10_3 p324 q324
              cases e324
              replace p324 := eq_true p324
              replace q324 := eq_true q324
              refine start_ (n := 15) (S := fun w' => w'.cell? (ad323.add (x9_2).toNat) = some (.int .i64 (rd t314 x9_2)) ∧ w'.cell? (ad324.add (x10_3).toNat) = some (.int .i64 (rd t320 x10_3))) (ds := []) #[false, false, false, false, false, false, false, false, false, false, false, false, false, false, false] (by kernel_rfl) rfl rfl ⟨hx323_0, hx324_0⟩ (fun hHeld => ?_); refine with_tabW dr26_Skew.tab11 dr26_Skew.bits11 (fun HT_ HW_ => ?_)
              generalize wr.drew = w38 at HO_6 HO_7 BK309 BK310 HB hx323_0 hx324_0 hHeld ⊢
              refine pv HT_ 0 40 ?_
              refine pv HT_ 1 41 ?_
              refine pv HT_ 2 42 ?_
              refine pv HT_ 4 44 ?_
              refine pv HT_ 5 45 ?_
              refine pv HT_ 6 46 ?_
              refine tw2 HT_ HW_ 3 43 ?_
              refine tw2 HT_ HW_ 7 47 ?_
              refine ov HT_ 8 48 (fun K hK => ?_)
              refine Kd.R_lit_step (Kd.int .i64) _ 2 ?hg (N := 48) ?hd (xs := ([rd t314 x9_2, rd t320 x10_3] : List Int)) (inner := [.int .i64 (rd t314 x9_2), .int .i64 (rd t320 x10_3)]) (ok := fun _ => True) (okp := fun _ => True) ?hr ?hp (fun _ hk => hk) trivial (Below.refl _ _) (Nat.le_refl _) (by simp) ?_; (case hd => rfl); (case hg => rfl); (case hr => first | (go_simp; done) | (go_simp; rfl)); (case hp => exact (Reps.one (show Kd.M (Kd.int .i64) _ _ _ (rd t314 x9_2) [.int .i64 (rd t314 x9_2)] from rfl) (Reps.one (show Kd.M (Kd.int .i64) _ _ _ (rd t320 x10_3) [.int .i64 (rd t320 x10_3)] from rfl) (Reps.none _ _))))
              intro v326 w39 ho40 hb hg_ hnew_
              have HS0_ := (hb.cell (World.block_lt_of_cell? _ _ (hHeld.1))).trans (hHeld.1)
              have HS1_ := (hb.cell (World.block_lt_of_cell? _ _ (hHeld.2))).trans (hHeld.2)
              clear hg_ hnew_
              (first | rw [← Ny325.out] at ho40 | (simp only [Int.reduceToNat] at ho40; rw [← Ny325.out] at ho40))
              have n0_ := am (Kd.R_elder' (kr HO_6.out) (Kd.R_base ho40) hb)
              have n1_ := am (Kd.R_elder' (kr HO_7.out) (Kd.R_base ho40) hb)
              have n2_ := am (Kd.R_lower (Kd.R_new' (Kd.R_new' ho40 (Kd.R_lt (kr HO_6.out))) (Kd.R_lt (kr HO_7.out))) (below_size (bl2 GE309 GE310)))
              have n3_ := am (blk_below (bk BK309) hb)
              have n4_ := am (blk_below (bk BK310) hb)
              have n5_ := am (below_step (bl2 GE309 GE310) hb)
              clear HO_6
              clear HO_7
              clear BK309
              clear BK310
              clear HB
              have HO_6 := n0_
              have HO_7 := n1_
              have HO327 := n2_
              have BK309 := n3_
              have BK310 := n4_
              have HB := n5_
              clear n0_ n1_ n2_ n3_ n4_ n5_
              clear hb ho40
              obtain ⟨Ao41, co41, eo41⟩ := Kd.R_slice HO327.out
              (first | subst eo41 | (injection eo41 with f1_ f2_ f3_; have f4_ := f1_.symm; have f5_ := f3_.symm; clear f1_ f2_ f3_; subst f4_; subst f5_))
              refine hK.out _ _ ⟨HS0_, HS1_⟩ (fun hHeld => ?_)
              clear hK K
              refine norm_ (a' := ?_) ?_ ?_
              rotate_left
              ·show Act.put _ (some 48) _ = _
               simp only [Act.put, sAa, sBb, sCc, i64_w, i32_w]
               rfl
              refine ov HT_ 9 49 (fun K hK => ?_)
              refine goes_ Tryz.func35 (by kernel_rfl) rfl #[.slice Ao41 y325.length co41] (by rfl) rfl rfl lm ?_
              with_reducible refine (dr10_Spread.calls k3 _ _ y325 t328 false _ ?side1 ?side2 A28.out).mono ?_
              (case side1 => exact kg (Kd.R_reads' HO327.out).2.2)
              (case side2 => exact (Kd.R_reads' HO327.out).2.1)
              rintro e w42 ⟨rfl, hb⟩
              have HS0_ := (hb.cell (World.block_lt_of_cell? _ _ (hHeld.1))).trans (hHeld.1)
              have HS1_ := (hb.cell (World.block_lt_of_cell? _ _ (hHeld.2))).trans (hHeld.2)
              refine ⟨_, rfl, ?_⟩
              have n0_ := am (Kd.R_below (kr HO_6.out) hb)
              have n1_ := am (Kd.R_below (kr HO_7.out) hb)
              have n2_ := am (Kd.R_below (kr HO327.out) hb)
              have n3_ := am (blk_below (bk BK309) hb)
              have n4_ := am (blk_below (bk BK310) hb)
              have n5_ := am (below_step (bl2 GE309 GE310) hb)
              clear HO_6
              clear HO_7
              clear HO327
              clear BK309
              clear BK310
              clear HB
              have HO_6 := n0_
              have HO_7 := n1_
              have HO327 := n2_
              have BK309 := n3_
              have BK310 := n4_
              have HB := n5_
              clear n0_ n1_ n2_ n3_ n4_ n5_
              (try clear hb)
              (try clear hb2)
              (try clear hk)
              (try clear hi)
              refine hK.out _ _ ⟨HS0_, HS1_⟩ (fun hHeld => ?_)
              clear hK K
              refine norm_ (a' := ?_) ?_ ?_
              rotate_left
              ·show Act.put _ (some 49) _ = _
               simp only [Act.put, sAa, sBb, sCc, i64_w, i32_w]
               rfl
              refine pv HT_ 10 39 ?_
              refine pv HT_ 11 50 ?_
              refine pv HT_ 12 51 ?_
              refine pv HT_ 13 11 ?_
              refine pv HT_ 14 12 ?_
              refine done_ (done_of HT_.out (by kernel_rfl)) ?_
              try go_wp2
              go_ret2
              exact ⟨ew, bl2 GE309 GE310⟩
            ·rw [if_neg c27] at H
             exact absurd H (by simp)
           ·rw [if_neg c26] at H
            exact absurd H (by simp)
          ·rw [if_neg c25] at H
           exact absurd H (by simp)
         ·rw [if_neg c24] at H
          have c24b0 : decide (x10_3 < (t320.length : Int)) = false := dF c24
          clear c24
          have H' := am H
          clear H
          obtain ⟨Ao43, co43, eo43⟩ := Kd.R_slice HO_7.out
          subst eo43
          go_wp2
          go_roundg k3
          case measure => have := HJ6.out; have := HK2.out; have := HK3.out; omega
          case rel => exact ⟨(x8_3), (wrap64 (x9_2 + 1)), bx, bx, H', ⟨by have := HJ6.out; have := HK2.out; have := HK3.out; omega⟩, ⟨kr HO_6.out⟩, ⟨kr HO_7.out⟩, ⟨bk BK309⟩, ⟨bk BK310⟩, ⟨bl2 GE309 GE310⟩⟩
      ·rw [if_neg c22] at H
       have c22b0 : decide (x9_2 < (t314.length : Int)) = false := dF c22
       clear c22
       simp only [Option.some.injEq, Prod.mk.injEq] at H
       obtain ⟨rfl, rfl⟩ := H
       obtain ⟨Ao44, co44, eo44⟩ := Kd.R_slice HO_6.out
       subst eo44
       go_wp2
       go_ret2
       exact ⟨ew, bl2 GE309 GE310⟩
end Go.Proofs.YtbefbhghmommhaaGreatDoor.MWo
