/- Texts of this claim, laid together by a program (wip/g/merge5.py): MWox50, MWox51, MWox46, MWox47, MWox83, PuW, HRa, PuSk, MWox55, PuSm. -/
import Derived.Test.YtbefbhghmommhaaGreatDoorZWd8
import Derived.Test.YtbefbhghmommhaaGreatDoorZWd4
import Derived.Test.YtbefbhghmommhaaGreatDoorZWd9
import Derived.Test.YtbefbhghmommhaaGreatDoorZWd10
namespace Go.Proofs.YtbefbhghmommhaaGreatDoor.MWo
open Go.RowKit Go.Proofs.YtbefbhghmommhaaGreatDoorW.PrintWords Go.Proofs.YtbefbhghmommhaaGreatDoorW.PrintLast Go.Proofs.YtbefbhghmommhaaGreatDoorW.PrintMore
attribute [local go_sem] mp_u32s mp_u32m mp_u8s mp_u8m max2_int min2_int max_two min_two max_three min_three max_four min_four
set_option linter.unusedVariables false
set_option linter.unusedSimpArgs false
def gauge_Spread.f (l0 : List Int) : Option (Int × Bool) := if l0.length ≤ 1000000 then some ((sprd l0).1, (sprd l0).2) else none
theorem gauge_Spread.calls (A0 : Option Addr) (c0 : Nat) (l0 : List Int) (r1 : Int) (r2 : Bool) (w : World) (hr0 : Kd.C (Kd.int .i64) w A0 l0.length l0) (hc0 : l0.length ≤ c0) (h : gauge_Spread.f l0 = some (r1, r2)) :
  Calls Tryz.prog 32 #[.slice A0 l0.length c0] w fun e w' => e = .returned (.tuple #[.int .i64 r1, .bool r2]) ∧ Below w.heap.size w w' := by
 unfold gauge_Spread.f at h
 split at h
 ·rename_i hc
  simp only [Option.some.injEq, Prod.mk.injEq] at h
  obtain ⟨rfl, rfl⟩ := h
  refine (gspread_walk A0 c0 l0 w hr0 hc).mono ?_
  rintro e w' ⟨rfl, rfl⟩
  exact ⟨rfl, Below.refl _ _⟩
 ·cases h
end Go.Proofs.YtbefbhghmommhaaGreatDoor.MWo

namespace Go.Proofs.YtbefbhghmommhaaGreatDoor.MWo
open Go.RowKit Go.Proofs.YtbefbhghmommhaaGreatDoorW.PrintWords Go.Proofs.YtbefbhghmommhaaGreatDoorW.PrintLast Go.Proofs.YtbefbhghmommhaaGreatDoorW.PrintMore
attribute [local go_sem] mp_u32s mp_u32m mp_u8s mp_u8m max2_int min2_int max_two min_two max_three min_three max_four min_four
set_option linter.unusedVariables false
set_option linter.unusedSimpArgs false
def slices_Max_int64_int64.f (l0 : List Int) : Option Int := if 0 < l0.length ∧ l0.length ≤ 1000000 then some (Lib.maxOf l0) else none
theorem slices_Max_int64_int64.calls (A0 : Option Addr) (c0 : Nat) (l0 : List Int) (r : Int) (w : World) (hr0 : Kd.C (Kd.int .i64) w A0 l0.length l0) (hc0 : l0.length ≤ c0) (h : slices_Max_int64_int64.f l0 = some r) :
  Calls Tryz.prog 42 #[.slice A0 l0.length c0] w fun e w' => e = .returned (.int .i64 r) ∧ Drawn0 w w' := by
 unfold slices_Max_int64_int64.f at h
 split at h
 ·rename_i hc
  injection h with h
  subst h
  refine (max64 A0 c0 l0 w hr0 hc.1 hc.2).mono ?_
  rintro e w' ⟨rfl, rfl⟩
  exact ⟨rfl, Drawn0.refl _⟩
 ·cases h
def slices_Min_int64_int64.f (l0 : List Int) : Option Int := if 0 < l0.length ∧ l0.length ≤ 1000000 then some (Lib.minOf l0) else none
theorem slices_Min_int64_int64.calls (A0 : Option Addr) (c0 : Nat) (l0 : List Int) (r : Int) (w : World) (hr0 : Kd.C (Kd.int .i64) w A0 l0.length l0) (hc0 : l0.length ≤ c0) (h : slices_Min_int64_int64.f l0 = some r) :
  Calls Tryz.prog 43 #[.slice A0 l0.length c0] w fun e w' => e = .returned (.int .i64 r) ∧ Drawn0 w w' := by
 unfold slices_Min_int64_int64.f at h
 split at h
 ·rename_i hc
  injection h with h
  subst h
  refine (min64 A0 c0 l0 w hr0 hc.1 hc.2).mono ?_
  rintro e w' ⟨rfl, rfl⟩
  exact ⟨rfl, Drawn0.refl _⟩
 ·cases h
def watch_Skew.j0 : Nat → List Int → List Int → Bool → Option (Int × Bool)
 | 0, _, _, _ => none
 | k + 1, x6, x7, x31 => if x31 = true then (some (0, false)) else ((slices_Max_int64_int64.f x6).bind fun t296 => ((slices_Min_int64_int64.f x7).bind fun t297 => ((slices_Max_int64_int64.f x7).bind fun t298 => ((slices_Min_int64_int64.f x6).bind fun t299 => (some (mx (wrap64 (t296 - t297)) (wrap64 (t298 - t299)), true))))))
def watch_Skew.f (k : Nat) (l0_0 : List (S55)) (a0_1 : Bool) (a0_2 : Int) (l0_3 : List Int) (l1_0 : List (S55)) (a1_1 : Bool) (a1_2 : Int) (l1_3 : List Int) : Option (Int × Bool) := (watch_starts.f k l0_0 a0_1 a0_2 l0_3).bind fun t286 => ((watch_starts.f k l1_0 a1_1 a1_2 l1_3).bind fun t289 => ((gauge_Spread.f t286).bind fun bt292 => ((gauge_Spread.f t289).bind fun bt294 => (if bt292.2 = true then (watch_Skew.j0 k t286 t289 (!bt294.2)) else (watch_Skew.j0 k t286 t289 true)))))
set_option maxHeartbeats 8000000 in
set_option maxRecDepth 100000 in
theorem watch_Skew.calls (k : Nat) (A0_0 : Option Addr) (c0_0 : Nat) (l0_0 : List (S55)) (a0_1 : Bool) (a0_2 : Int) (A0_3 : Option Addr) (c0_3 : Nat) (l0_3 : List Int) (A1_0 : Option Addr) (c1_0 : Nat) (l1_0 : List (S55)) (a1_1 : Bool) (a1_2 : Int) (A1_3 : Option Addr) (c1_3 : Nat) (l1_3 : List Int) (r1 : Int) (r2 : Bool) (w : World) (hr0_0 : Kd.C k55 w A0_0 l0_0.length l0_0) (hc0_0 : l0_0.length ≤ c0_0) (hr0_3 : Kd.C (Kd.int .i64) w A0_3 l0_3.length l0_3) (hc0_3 : l0_3.length ≤ c0_3) (hr1_0 : Kd.C k55 w A1_0 l1_0.length l1_0) (hc1_0 : l1_0.length ≤ c1_0) (hr1_3 : Kd.C (Kd.int .i64) w A1_3 l1_3.length l1_3) (hc1_3 : l1_3.length ≤ c1_3) (h : watch_Skew.f k l0_0 a0_1 a0_2 l0_3 l1_0 a1_1 a1_2 l1_3 = some (r1, r2)) :
  Calls Tryz.prog 15 #[.agg #[.slice A0_0 l0_0.length c0_0, .bool a0_1, .int .i64 a0_2, .slice A0_3 l0_3.length c0_3], .agg #[.slice A1_0 l1_0.length c1_0, .bool a1_1, .int .i64 a1_2, .slice A1_3 l1_3.length c1_3]] w fun e w' => e = .returned (.tuple #[.int .i64 r1, .bool r2]) ∧ Below w.heap.size w w' := by
 have hu37 := Tryz.underlying37
 have HR0_0 := am hr0_0
 have HC0_0 := am hc0_0
 clear hr0_0 hc0_0
 have HR0_3 := am hr0_3
 have HC0_3 := am hc0_3
 clear hr0_3 hc0_3
 have HR1_0 := am hr1_0
 have HC1_0 := am hc1_0
 clear hr1_0 hc1_0
 have HR1_3 := am hr1_3
 have HC1_3 := am hc1_3
 clear hr1_3 hc1_3
 have HB := am (Below.refl w.heap.size w)
 have H : ((watch_starts.f k l0_0 a0_1 a0_2 l0_3).bind fun t286 => ((watch_starts.f k l1_0 a1_1 a1_2 l1_3).bind fun t289 => ((gauge_Spread.f t286).bind fun bt292 => ((gauge_Spread.f t289).bind fun bt294 => (if bt292.2 = true then (watch_Skew.j0 k t286 t289 (!bt294.2)) else (watch_Skew.j0 k t286 t289 true)))))) = some (r1, r2) := h
 clear h
 replace H := bS H
 obtain ⟨t286, A30, H⟩ := H
 replace H : ((watch_starts.f k l1_0 a1_1 a1_2 l1_3).bind fun t289 => ((gauge_Spread.f t286).bind fun bt292 => ((gauge_Spread.f t289).bind fun bt294 => (if bt292.2 = true then (watch_Skew.j0 k t286 t289 (!bt294.2)) else (watch_Skew.j0 k t286 t289 true))))) = some (r1, r2) := H
 have A3 := am A30
 clear A30
 replace H := bS H
 obtain ⟨t289, A40, H⟩ := H
 replace H : ((gauge_Spread.f t286).bind fun bt292 => ((gauge_Spread.f t289).bind fun bt294 => (if bt292.2 = true then (watch_Skew.j0 k t286 t289 (!bt294.2)) else (watch_Skew.j0 k t286 t289 true)))) = some (r1, r2) := H
 have A4 := am A40
 clear A40
 replace H := bS H
 obtain ⟨⟨t292, t293⟩, A50, H⟩ := H
 replace H : ((gauge_Spread.f t289).bind fun bt294 => (if t293 = true then (watch_Skew.j0 k t286 t289 (!bt294.2)) else (watch_Skew.j0 k t286 t289 true))) = some (r1, r2) := H
 have A5 := am A50
 clear A50
 replace H := bS H
 obtain ⟨⟨t294, t295⟩, A60, H⟩ := H
 replace H : (if t293 = true then (watch_Skew.j0 k t286 t289 (!t295)) else (watch_Skew.j0 k t286 t289 true)) = some (r1, r2) := H
 have A6 := am A60
 clear A60
 have HC7 := am H
 clear H
 go_enter Tryz.func15, Tryz.ntmps15
 try go_wp2_with (first | ((with_reducible refine gate_dst (N := 2) rfl ?_); refine bxe 2 #[.slice A0_0 l0_0.length c0_0, .bool a0_1, .int .i64 a0_2, .slice A0_3 l0_3.length c0_3] 37 ?_; intro gb284 hg w8 hbox hb; have n0_ := am (below_step bl0 hb); have n1_ := am (hbox); have n2_ := am (gw0 hg); have n3_ := am (gw0 hg); clear HB; have HB := n0_; have BK284 := n1_; have GW284 := n2_; have GE284 := n3_; clear n0_ n1_ n2_ n3_; clear hb hbox hg) | ((with_reducible refine gate_dst (N := 3) rfl ?_); refine bxe 3 #[.slice A1_0 l1_0.length c1_0, .bool a1_1, .int .i64 a1_2, .slice A1_3 l1_3.length c1_3] 37 ?_; intro gb285 hg w9 hbox hb; have n0_ := am (blk_below (bk BK284) hb); have n1_ := am (below_step (bl1 GE284) hb); have n2_ := am (hbox); have n3_ := am (gw1 hg GE284); have n4_ := am (gw1 hg GE284); have n5_ := am (nl hg BK284); have n6_ := am (nr hg BK284); clear BK284; clear HB; have BK284 := n0_; have HB := n1_; have BK285 := n2_; have GW285 := n3_; have GE285 := n4_; have NB284_285 := n5_; have NB285_284 := n6_; clear n0_ n1_ n2_ n3_ n4_ n5_ n6_; clear hb hbox hg))
 have n0_ := am (blk_drew BK284.out)
 have n1_ := am (blk_drew BK285.out)
 have n2_ := am (below_drew1 HB.out)
 clear BK284
 clear BK285
 clear HB
 have BK284 := n0_
 have BK285 := n1_
 have HB := n2_
 clear n0_ n1_ n2_
 refine start_ (n := 6) (S := fun w' => w'.cell? ⟨gb284, 0, none⟩ = some (.slice A0_0 l0_0.length c0_0) ∧ w'.cell? ⟨gb284, 1, none⟩ = some (.bool a0_1) ∧ w'.cell? ⟨gb284, 2, none⟩ = some (.int .i64 a0_2) ∧ w'.cell? ⟨gb284, 3, none⟩ = some (.slice A0_3 l0_3.length c0_3) ∧ w'.cell? ⟨gb285, 0, none⟩ = some (.slice A1_0 l1_0.length c1_0) ∧ w'.cell? ⟨gb285, 1, none⟩ = some (.bool a1_1) ∧ w'.cell? ⟨gb285, 2, none⟩ = some (.int .i64 a1_2) ∧ w'.cell? ⟨gb285, 3, none⟩ = some (.slice A1_3 l1_3.length c1_3)) (ds := []) #[false, false, false, false, false, false] (by kernel_rfl) rfl rfl ⟨(blk_cell BK284.out 0).trans rfl, (blk_cell BK284.out 1).trans rfl, (blk_cell BK284.out 2).trans rfl, (blk_cell BK284.out 3).trans rfl, (blk_cell BK285.out 0).trans rfl, (blk_cell BK285.out 1).trans rfl, (blk_cell BK285.out 2).trans rfl, (blk_cell BK285.out 3).trans rfl⟩ (fun hHeld => ?_)
 generalize w9.drew = w10 at BK284 BK285 HB hHeld ⊢
 refine tk8 0 12 ?_
 refine tk8 2 14 ?_
 refine on 1 13 (fun K hK => ?_)
 refine goes_ Tryz.func31 (by kernel_rfl) rfl #[.agg #[.slice A0_0 l0_0.length c0_0, .bool a0_1, .int .i64 a0_2, .slice A0_3 l0_3.length c0_3]] (by rfl) rfl rfl lm ?_
 with_reducible refine (watch_starts.calls k _ _ l0_0 a0_1 a0_2 _ _ l0_3 t286 _ ?side1 ?side2 ?side3 ?side4 A3.out).mono ?_
 (case side1 => exact kc HR0_0)
 (case side2 => exact HC0_0.out)
 (case side3 => exact kc HR0_3)
 (case side4 => exact HC0_3.out)
 rintro e w11 ⟨v287, rfl, ho0, hb⟩
 refine ⟨_, rfl, ?_⟩
 have n0_ := am (Kd.R_lower ho0 (below_size (bl2 GE284 GE285)))
 have n1_ := am (blk_below (bk BK284) hb)
 have n2_ := am (blk_below (bk BK285) hb)
 have n3_ := am (below_step (bl2 GE284 GE285) hb)
 clear BK284
 clear BK285
 clear HB
 have HO288 := n0_
 have BK284 := n1_
 have BK285 := n2_
 have HB := n3_
 clear n0_ n1_ n2_ n3_
 (try clear hb)
 (try clear hb2)
 (try clear hk)
 (try clear hi)
 (try clear ho0)
 refine hK.out _ _ ⟨(blk_cell BK284.out 0).trans rfl, (blk_cell BK284.out 1).trans rfl, (blk_cell BK284.out 2).trans rfl, (blk_cell BK284.out 3).trans rfl, (blk_cell BK285.out 0).trans rfl, (blk_cell BK285.out 1).trans rfl, (blk_cell BK285.out 2).trans rfl, (blk_cell BK285.out 3).trans rfl⟩ (fun hHeld => ?_)
 clear hK K
 refine norm_ (a' := ?_) ?_ ?_
 rotate_left
 ·show Act.put _ (some 13) _ = _
  simp only [Act.put, sAa, sBb, sCc, i64_w, i32_w]
  rfl
 refine on 3 15 (fun K hK => ?_)
 refine goes_ Tryz.func31 (by kernel_rfl) rfl #[.agg #[.slice A1_0 l1_0.length c1_0, .bool a1_1, .int .i64 a1_2, .slice A1_3 l1_3.length c1_3]] (by rfl) rfl rfl lm ?_
 with_reducible refine (watch_starts.calls k _ _ l1_0 a1_1 a1_2 _ _ l1_3 t289 _ ?side1 ?side2 ?side3 ?side4 A4.out).mono ?_
 (case side1 => exact kc HR1_0)
 (case side2 => exact HC1_0.out)
 (case side3 => exact kc HR1_3)
 (case side4 => exact HC1_3.out)
 rintro e w12 ⟨v290, rfl, ho0, hb⟩
 refine ⟨_, rfl, ?_⟩
 have n0_ := am (Kd.R_elder' (kr HO288.out) (Kd.R_base ho0) hb)
 have n1_ := am (Kd.R_lower (Kd.R_new' ho0 (Kd.R_lt (kr HO288.out))) (below_size (bl2 GE284 GE285)))
 have n2_ := am (blk_below (bk BK284) hb)
 have n3_ := am (blk_below (bk BK285) hb)
 have n4_ := am (below_step (bl2 GE284 GE285) hb)
 clear HO288
 clear BK284
 clear BK285
 clear HB
 have HO288 := n0_
 have HO291 := n1_
 have BK284 := n2_
 have BK285 := n3_
 have HB := n4_
 clear n0_ n1_ n2_ n3_ n4_
 (try clear hb)
 (try clear hb2)
 (try clear hk)
 (try clear hi)
 (try clear ho0)
 refine hK.out _ _ ⟨(blk_cell BK284.out 0).trans rfl, (blk_cell BK284.out 1).trans rfl, (blk_cell BK284.out 2).trans rfl, (blk_cell BK284.out 3).trans rfl, (blk_cell BK285.out 0).trans rfl, (blk_cell BK285.out 1).trans rfl, (blk_cell BK285.out 2).trans rfl, (blk_cell BK285.out 3).trans rfl⟩ (fun hHeld => ?_)
 clear hK K
 refine norm_ (a' := ?_) ?_ ?_
 rotate_left
 ·show Act.put _ (some 15) _ = _
  simp only [Act.put, sAa, sBb, sCc, i64_w, i32_w]
  rfl
 refine pu 4 6 ?_
 refine pu 5 7 ?_
 refine done_ (by kernel_rfl) ?_
 obtain ⟨Ao13, co13, eo13⟩ := Kd.R_slice HO288.out
 subst eo13
 go_upto_region 4 with (first | ((with_reducible refine gate_callee (f := 32) rfl ?_); refine goesL_ (some 18) rfl rfl Tryz.func32 (by kernel_rfl) rfl #[.slice Ao13 t286.length co13] rfl lm ?_; (with_reducible refine (gauge_Spread.calls _ _ t286 t292 t293 _ ?side1 ?side2 A5.out).mono ?_); (case side1 => exact kg (Kd.R_reads' HO288.out).2.2); (case side2 => exact (Kd.R_reads' HO288.out).2.1); rintro e w14 ⟨rfl, hb⟩; refine ⟨_, rfl, ?_⟩; have n0_ := am (Kd.R_below (kr HO288.out) hb); have n1_ := am (Kd.R_below (kr HO291.out) hb); have n2_ := am (blk_below (bk BK284) hb); have n3_ := am (blk_below (bk BK285) hb); have n4_ := am (below_step (bl2 GE284 GE285) hb); clear HO288; clear HO291; clear BK284; clear BK285; clear HB; have HO288 := n0_; have HO291 := n1_; have BK284 := n2_; have BK285 := n3_; have HB := n4_; clear n0_ n1_ n2_ n3_ n4_; (try clear hb); (try clear hb2); (try clear hk); (try clear hi); obtain ⟨Ao15, co15, eo15⟩ := Kd.R_slice HO291.out; subst eo15) | ((with_reducible refine gate_callee (f := 32) rfl ?_); refine goesL_ (some 23) rfl rfl Tryz.func32 (by kernel_rfl) rfl #[.slice Ao15 t289.length co15] rfl lm ?_; (with_reducible refine (gauge_Spread.calls _ _ t289 t294 t295 _ ?side1 ?side2 A6.out).mono ?_); (case side1 => exact kg (Kd.R_reads' HO291.out).2.2); (case side2 => exact (Kd.R_reads' HO291.out).2.1); rintro e w16 ⟨rfl, hb⟩; refine ⟨_, rfl, ?_⟩; have n0_ := am (Kd.R_below (kr HO288.out) hb); have n1_ := am (Kd.R_below (kr HO291.out) hb); have n2_ := am (blk_below (bk BK284) hb); have n3_ := am (blk_below (bk BK285) hb); have n4_ := am (below_step (bl2 GE284 GE285) hb); clear HO288; clear HO291; clear BK284; clear BK285; clear HB; have HO288 := n0_; have HO291 := n1_; have BK284 := n2_; have BK285 := n3_; have HB := n4_; clear n0_ n1_ n2_ n3_ n4_; (try clear hb); (try clear hb2); (try clear hk); (try clear hi)))
 (try simp only [Act.put, sAa, sBb, sCc])
 go_cut [31] (fun v31 wc => ∃ (kq : Nat) (x31_6 : Bool), v31 = .bool x31_6 ∧ Aside0 (watch_Skew.j0 kq t286 t289 x31_6 = some (r1, r2)) ∧ Aside0 (kq ≤ k) ∧ Aside0 (Kd.R (Kd.int .i64) 2 wc w.heap.size (fun k_ => some k_ ≠ ((.slice Ao15 t289.length co15) : Value).ownBlock) (.slice Ao13 t286.length co13) t286) ∧ Aside0 (Kd.R (Kd.int .i64) 2 wc w.heap.size (fun k_ => some k_ ≠ ((.slice Ao13 t286.length co13) : Value).ownBlock) (.slice Ao15 t289.length co15) t289) ∧ Aside0 (wc.heap[gb284]? = some (.cells #[(.slice A0_0 l0_0.length c0_0), .bool a0_1, .int .i64 a0_2, (.slice A0_3 l0_3.length c0_3)] 37 (0, 0))) ∧ Aside0 (wc.heap[gb285]? = some (.cells #[(.slice A1_0 l1_0.length c1_0), .bool a1_1, .int .i64 a1_2, (.slice A1_3 l1_3.length c1_3)] 37 (0, 0))) ∧ Aside0 (Below w.heap.size w wc))
 case first =>
  have H := HC7.out
  clear HC7
  by_cases c17 : t293 = true
  ·subst c17
   have H1 : (watch_Skew.j0 k t286 t289 (!t295)) = some (r1, r2) := by rw [if_pos rfl] at H; exact H
   clear H
   have H := H1
   clear H1
   have H' := am H
   clear H
   go_wp2
   go_meet
   case rel => exact ⟨_, (!t295), bx, H', ⟨by first | omega | exact Nat.le_refl _⟩, ⟨kr (Kd.R_mono HO288.out (fun _ hk => hk.2))⟩, ⟨kr (Kd.R_mono HO291.out (fun _ hk => hk.2))⟩, ⟨bk BK284⟩, ⟨bk BK285⟩, ⟨bl2 GE284 GE285⟩⟩
  ·replace c17 := Bool.eq_false_iff.mpr c17
   subst c17
   have H1 : (watch_Skew.j0 k t286 t289 true) = some (r1, r2) := by rw [if_neg (show ¬ (false = true) by decide)] at H; exact H
   clear H
   have H := H1
   clear H1
   have H' := am H
   clear H
   go_wp2
   go_meet
   case rel => exact ⟨_, (true), bx, H', ⟨by first | omega | exact Nat.le_refl _⟩, ⟨kr (Kd.R_mono HO288.out (fun _ hk => hk.2))⟩, ⟨kr (Kd.R_mono HO291.out (fun _ hk => hk.2))⟩, ⟨bk BK284⟩, ⟨bk BK285⟩, ⟨bl2 GE284 GE285⟩⟩
 case rest =>
  clear HC7
  try clear c1
  try clear p2
  try clear c3
  try clear c15
  try clear c17
  obtain ⟨kq, x31_6, rfl, HA, HJ6, HO_6, HO_7, BK284, BK285, HB⟩ := hcut
  cases kq with
  | zero => exact absurd HA.out (by simp [watch_Skew.j0])
  | succ kj6 =>
   have H := HA.out
   clear HA
   simp only [watch_Skew.j0] at H
   by_cases c18 : x31_6 = true
   ·subst c18
    have H1 : (some (0, false)) = some (r1, r2) := by rw [if_pos rfl] at H; exact H
    clear H
    have H := H1
    clear H1
    simp only [Option.some.injEq, Prod.mk.injEq] at H
    obtain ⟨rfl, rfl⟩ := H
    go_wp2
    go_ret2
    exact ⟨ew, bl2 GE284 GE285⟩
   ·replace c18 := Bool.eq_false_iff.mpr c18
    subst c18
    have H1 : ((slices_Max_int64_int64.f t286).bind fun t296 => ((slices_Min_int64_int64.f t289).bind fun t297 => ((slices_Max_int64_int64.f t289).bind fun t298 => ((slices_Min_int64_int64.f t286).bind fun t299 => (some (mx (wrap64 (t296 - t297)) (wrap64 (t298 - t299)), true)))))) = some (r1, r2) := by rw [if_neg (show ¬ (false = true) by decide)] at H; exact H
    clear H
    have H := H1
    clear H1
    replace H := bS H
    obtain ⟨t296, A190, H⟩ := H
    replace H : ((slices_Min_int64_int64.f t289).bind fun t297 => ((slices_Max_int64_int64.f t289).bind fun t298 => ((slices_Min_int64_int64.f t286).bind fun t299 => (some (mx (wrap64 (t296 - t297)) (wrap64 (t298 - t299)), true))))) = some (r1, r2) := H
    have A19 := am A190
    clear A190
    replace H := bS H
    obtain ⟨t297, A200, H⟩ := H
    replace H : ((slices_Max_int64_int64.f t289).bind fun t298 => ((slices_Min_int64_int64.f t286).bind fun t299 => (some (mx (wrap64 (t296 - t297)) (wrap64 (t298 - t299)), true)))) = some (r1, r2) := H
    have A20 := am A200
    clear A200
    replace H := bS H
    obtain ⟨t298, A210, H⟩ := H
    replace H : ((slices_Min_int64_int64.f t286).bind fun t299 => (some (mx (wrap64 (t296 - t297)) (wrap64 (t298 - t299)), true))) = some (r1, r2) := H
    have A21 := am A210
    clear A210
    replace H := bS H
    obtain ⟨t299, A220, H⟩ := H
    replace H : (some (mx (wrap64 (t296 - t297)) (wrap64 (t298 - t299)), true)) = some (r1, r2) := H
    have A22 := am A220
    clear A220
    obtain ⟨ji23, hji23⟩ : ∃ j_ : Int, (mx (wrap64 (t296 - t297)) (wrap64 (t298 - t299))) = j_ := ⟨_, rfl⟩
    replace H : (some (ji23, true)) = some (r1, r2) := by first | (rw [hji23] at H; exact H) | (simp only [hji23] at H ⊢; exact H)
    (try rw [hji23] at A19)
    (try rw [hji23] at A20)
    (try rw [hji23] at A21)
    (try rw [hji23] at A22)
    have hji23_ : (if (wrap64 (t296 - t297)) < (wrap64 (t298 - t299)) then (wrap64 (t298 - t299)) else (wrap64 (t296 - t297))) = ji23 := hji23
    simp only [Option.some.injEq, Prod.mk.injEq] at H
    obtain ⟨rfl, rfl⟩ := H
    go_wp2_with (first | ((with_reducible refine gate_callee (f := 42) rfl ?_); refine goesL_ (some 33) rfl rfl Tryz.func42 (by kernel_rfl) rfl #[.slice Ao13 t286.length co13] rfl lm ?_; (with_reducible refine (slices_Max_int64_int64.calls _ _ t286 t296 _ ?side1 ?side2 A19.out).mono ?_); (case side1 => exact kg (Kd.R_reads' HO_6.out).2.2); (case side2 => exact (Kd.R_reads' HO_6.out).2.1); rintro e w' ⟨rfl, ⟨nd, rfl⟩⟩; refine ⟨_, rfl, ?_⟩) | ((with_reducible refine gate_callee (f := 43) rfl ?_); refine goesL_ (some 35) rfl rfl Tryz.func43 (by kernel_rfl) rfl #[.slice Ao15 t289.length co15] rfl lm ?_; (with_reducible refine (slices_Min_int64_int64.calls _ _ t289 t297 _ ?side1 ?side2 A20.out).mono ?_); (case side1 => exact kg (Kd.R_reads' HO_7.out).2.2); (case side2 => exact (Kd.R_reads' HO_7.out).2.1); rintro e w' ⟨rfl, ⟨nd, rfl⟩⟩; refine ⟨_, rfl, ?_⟩) | ((with_reducible refine gate_callee (f := 42) rfl ?_); refine goesL_ (some 38) rfl rfl Tryz.func42 (by kernel_rfl) rfl #[.slice Ao15 t289.length co15] rfl lm ?_; (with_reducible refine (slices_Max_int64_int64.calls _ _ t289 t298 _ ?side1 ?side2 A21.out).mono ?_); (case side1 => exact kg (Kd.R_reads' HO_7.out).2.2); (case side2 => exact (Kd.R_reads' HO_7.out).2.1); rintro e w' ⟨rfl, ⟨nd, rfl⟩⟩; refine ⟨_, rfl, ?_⟩) | ((with_reducible refine gate_callee (f := 43) rfl ?_); refine goesL_ (some 40) rfl rfl Tryz.func43 (by kernel_rfl) rfl #[.slice Ao13 t286.length co13] rfl lm ?_; (with_reducible refine (slices_Min_int64_int64.calls _ _ t286 t299 _ ?side1 ?side2 A22.out).mono ?_); (case side1 => exact kg (Kd.R_reads' HO_6.out).2.2); (case side2 => exact (Kd.R_reads' HO_6.out).2.1); rintro e w' ⟨rfl, ⟨nd, rfl⟩⟩; refine ⟨_, rfl, ?_⟩))
    go_ret2
    exact ⟨by first | rfl | (simp [errW_none, errW_some] <;> rfl) | (simp only [← hji23]; first | rfl | (simp [errW_none, errW_some] <;> rfl)) | (simp [*, errW_none, errW_some] <;> rfl), bl2 GE284 GE285⟩
end Go.Proofs.YtbefbhghmommhaaGreatDoor.MWo
set_option linter.unusedVariables false
set_option linter.unusedSimpArgs false
set_option maxRecDepth 100000
namespace Go.Proofs.YtbefbhghmommhaaGreatDoor.MWo
open Go.RowKit Go.Proofs.YtbefbhghmommhaaGreatDoorW.PrintWords Go.Proofs.YtbefbhghmommhaaGreatDoorW.PrintLast Go.Proofs.YtbefbhghmommhaaGreatDoorW.PrintMore Go.Proofs.YtbefbhghmommhaaGreatDoor.Evl
theorem rsynced_loop {l : List S55} (hl : l.length ≤ 1000000) (a1 : Bool) (a2 : Int) (l3 : List Int) : ∀ (d i : Nat) (o : List S55), i + d = l.length → o.length ≤ i → Evl (fun k => dr26_synced.l0 k o (i : Int) l a1 a2 l3) (o ++ syn (l.drop i))
 | 0, i, o, h, _ => by
  refine Evl.succ ?_
  simp only [dr26_synced.l0]
  simp only [if_neg (show ¬ ((i : Int) < (l.length : Int)) by omega), List.drop_eq_nil_iff.2 (show l.length ≤ i by omega)]
  exact Evl.now fun _ => by simp [syn]
 | d + 1, i, o, h, ho => by
  have hi : i < l.length := by omega
  refine Evl.succ ?_
  simp only [dr26_synced.l0]
  simp only [if_pos (show (i : Int) < (l.length : Int) by omega), if_pos (show (0 : Int) ≤ (i : Int) by omega), w64n (show i < 2000000 by omega), if_pos (show o.length < 1759218604441 by omega)]
  rw [List.drop_eq_getElem_cons hi]
  have hr : rd_T55 l (i : Int) = l[i] := by rw [rd_n (by omega) (by omega)]; simp
  simp only [hr]
  by_cases e : (l[i]).f0 = 2
  ·simp only [if_pos e]
   have ih := rsynced_loop hl a1 a2 l3 d (i + 1) (o ++ [l[i]]) (by omega) (by simp; omega)
   have e2 : syn (l[i] :: l.drop (i + 1)) = l[i] :: syn (l.drop (i + 1)) := by unfold syn; rw [List.filter_cons, if_pos (by simp [e])]
   rw [e2]
   rw [List.append_assoc] at ih
   exact ih
  ·simp only [if_neg e]
   have ih := rsynced_loop hl a1 a2 l3 d (i + 1) o (by omega) (by omega)
   have e2 : syn (l[i] :: l.drop (i + 1)) = syn (l.drop (i + 1)) := by unfold syn; rw [List.filter_cons, if_neg (by simp [e])]
   rw [e2]
   exact ih
theorem rsynced_evl {l : List S55} (hl : l.length ≤ 1000000) (a1 : Bool) (a2 : Int) (l3 : List Int) : Evl (fun k => dr26_synced.f k l a1 a2 l3) (syn l) := rsynced_loop hl a1 a2 l3 l.length 0 [] (by omega) (by simp)
theorem rstarts_loop {l : List S55} (hl : l.length ≤ 1000000) : ∀ (d i : Nat) (o : List Int), i + d = l.length → o.length ≤ i → Evl (fun k => dr26_starts.l0 k l o (i : Int)) (o ++ (l.drop i).map (·.f3))
 | 0, i, o, h, _ => by
  refine Evl.succ ?_
  simp only [dr26_starts.l0]
  simp only [if_neg (show ¬ ((i : Int) < (l.length : Int)) by omega), List.drop_eq_nil_iff.2 (show l.length ≤ i by omega)]
  exact Evl.now fun _ => by simp
 | d + 1, i, o, h, ho => by
  have hi : i < l.length := by omega
  refine Evl.succ ?_
  simp only [dr26_starts.l0]
  simp only [if_pos (show (i : Int) < (l.length : Int) by omega), if_pos (show (0 : Int) ≤ (i : Int) by omega), w64n (show i < 2000000 by omega), if_pos (show o.length < 17592186044416 by omega)]
  rw [List.drop_eq_getElem_cons hi]
  have hr : rd_T55 l (i : Int) = l[i] := by rw [rd_n (by omega) (by omega)]; simp
  simp only [hr]
  have ih := rstarts_loop hl d (i + 1) (o ++ [(l[i]).f3]) (by omega) (by simp; omega)
  rw [List.append_assoc] at ih
  exact ih
theorem rstarts_evl {l : List S55} (hl : l.length ≤ 1000000) : Evl (fun k => dr26_starts.f k l) (l.map (·.f3)) := by
 have h := rstarts_loop hl l.length 0 [] (by omega) (by simp)
 exact h
theorem rd_i {l : List Int} {i : Nat} (h : i < l.length) : rd l (i : Int) = l[i] := by simp [rd, h]
theorem rtimes_loop {l : List Int} (hl : l.length ≤ 1000000) : ∀ (d i : Nat), i + d = l.length → Evl (fun k => dr10_times.l0 k l (i : Int)) ((l.drop i).all timeB)
 | 0, i, h => by
  refine Evl.succ ?_
  simp only [dr10_times.l0]
  simp only [if_neg (show ¬ ((i : Int) < (l.length : Int)) by omega), List.drop_eq_nil_iff.2 (show l.length ≤ i by omega)]
  exact Evl.now fun _ => rfl
 | d + 1, i, h => by
  have hi : i < l.length := by omega
  refine Evl.succ ?_
  simp only [dr10_times.l0]
  simp only [if_pos (show (i : Int) < (l.length : Int) by omega), if_pos (show (0 : Int) ≤ (i : Int) by omega), w64n (show i < 2000000 by omega), rd_i hi]
  rw [List.drop_eq_getElem_cons hi]
  have hT : dr1_Time.f l[i] = some (timeB l[i]) := by
   unfold dr1_Time.f timeB
   by_cases h : l[i] ≥ -1099511627776
   ·rw [if_pos h, show decide (-1099511627776 ≤ l[i]) = true from dT h, Bool.true_and]
   ·rw [if_neg h, show decide (-1099511627776 ≤ l[i]) = false from dF h, Bool.false_and]
  simp only [hT, Option.bind_some, List.all_cons]
  cases hb : timeB l[i] with
  | false =>
   exact Evl.now fun _ => rfl
  | true =>
   have ih := rtimes_loop hl d (i + 1) (by omega)
   simp only [if_true, Bool.true_and]
   exact ih
theorem rtimes_evl {l : List Int} (hl : l.length ≤ 1000000) : Evl (fun k => dr10_times.f k l) (l.all timeB) := rtimes_loop hl l.length 0 (by omega)
theorem mx_max (a b : Int) : mx a b = max a b := by unfold mx; omega
theorem mn_min (a b : Int) : mn a b = min a b := by unfold mn; omega
theorem rspread_loop {l : List Int} (hl : l.length ≤ 1000000) : ∀ (d i : Nat) (a b : Int), i + d = l.length → Evl (fun k => dr10_Spread.l0 k l a b (i : Int)) (wrap64 ((l.drop i).foldl max b - (l.drop i).foldl min a), true)
 | 0, i, a, b, h => by
  refine Evl.succ ?_
  simp only [dr10_Spread.l0]
  simp only [if_neg (show ¬ ((i : Int) < (l.length : Int)) by omega), List.drop_eq_nil_iff.2 (show l.length ≤ i by omega)]
  exact Evl.now fun _ => rfl
 | d + 1, i, a, b, h => by
  have hi : i < l.length := by omega
  refine Evl.succ ?_
  simp only [dr10_Spread.l0]
  simp only [if_pos (show (i : Int) < (l.length : Int) by omega), if_pos (show (0 : Int) ≤ (i : Int) by omega), w64n (show i < 2000000 by omega), rd_i hi, mx_max, mn_min]
  rw [List.drop_eq_getElem_cons hi]
  have ih := rspread_loop hl d (i + 1) (min a l[i]) (max b l[i]) (by omega)
  exact ih
theorem any_all {α : Type} (p : α → Bool) (l : List α) : (l.any fun x => !p x) = !(l.all p) := by
 induction l with
 | nil => rfl
 | cons x t ih => simp [ih, Bool.not_and]
theorem rspread_evl {l : List Int} (hl : l.length ≤ 1000000) : Evl (fun k => dr10_Spread.f k l) (sprd l) := by
 unfold dr10_Spread.f sprd
 by_cases h0 : l = []
 ·subst h0
  simp only [List.length_nil, Int.ofNat_zero, if_true, true_or]
  exact Evl.succ (Evl.now fun _ => by simp [dr10_Spread.j0])
 ·have hn : 0 < l.length := List.length_pos_iff.2 h0
  simp only [if_neg (show ¬ ((l.length : Int) = 0) by omega)]
  refine Evl.bind (rtimes_evl hl) ?_
  rw [any_all]
  cases hb : l.all timeB with
  | false =>
   rw [if_pos (show l = [] ∨ (!false) = true from Or.inr rfl)]
   exact Evl.succ (Evl.now fun _ => by simp [dr10_Spread.j0])
  | true =>
   rw [if_neg (by rintro (h | h); exact h0 h; exact absurd h (by decide))]
   refine Evl.succ ?_
   simp only [dr10_Spread.j0]
   simp only [show ((!true) = true) = False by simp, if_false, if_pos (show (0 : Int) < (l.length : Int) by omega)]
   have := rspread_loop hl l.length 0 (rd l 0) (rd l 0) (by omega)
   have e : rd l 0 = l.headD 0 := by cases l <;> simp [rd]
   rw [e] at this ⊢
   exact this
theorem rsame_loop {l m : List Int} (hl : l.length ≤ 1000000) (hm : l.length = m.length) : ∀ (d i : Nat), i + d = l.length → Evl (fun k => dr1_SameInts.l0 k l m (i : Int)) (decide (l.drop i = m.drop i))
 | 0, i, h => by
  refine Evl.succ ?_
  simp only [dr1_SameInts.l0]
  simp only [if_neg (show ¬ ((i : Int) < (l.length : Int)) by omega), List.drop_eq_nil_iff.2 (show l.length ≤ i by omega), List.drop_eq_nil_iff.2 (show m.length ≤ i by omega)]
  exact Evl.now fun _ => rfl
 | d + 1, i, h => by
  have hi : i < l.length := by omega
  have hj : i < m.length := by omega
  refine Evl.succ ?_
  simp only [dr1_SameInts.l0]
  simp only [if_pos (show (i : Int) < (l.length : Int) by omega), if_pos (show (i : Int) < (m.length : Int) by omega), if_pos (show (0 : Int) ≤ (i : Int) by omega), w64n (show i < 2000000 by omega), rd_i hi, rd_i hj]
  rw [List.drop_eq_getElem_cons hi, List.drop_eq_getElem_cons hj]
  have ih := rsame_loop hl hm d (i + 1) (by omega)
  by_cases e : l[i] = m[i]
  ·simp only [if_pos e]
   have e2 : decide (l[i] :: l.drop (i + 1) = m[i] :: m.drop (i + 1)) = decide (l.drop (i + 1) = m.drop (i + 1)) := by
    apply decide_eq_decide.2
    rw [List.cons.injEq]
    exact ⟨fun h => h.2, fun h => ⟨e, h⟩⟩
   rw [e2]
   exact ih
  ·simp only [if_neg e]
   have e2 : decide (l[i] :: l.drop (i + 1) = m[i] :: m.drop (i + 1)) = false := dF (fun h => e (List.cons.inj h).1)
   rw [e2]
   exact Evl.now fun _ => rfl
theorem rsame_evl {l m : List Int} (hl : l.length ≤ 1000000) : Evl (fun k => dr1_SameInts.f k l m) (decide (l = m)) := by
 unfold dr1_SameInts.f
 by_cases h : l.length = m.length
 ·simp only [if_pos (show ((l.length : Int) = (m.length : Int)) by omega)]
  exact rsame_loop hl h l.length 0 (by omega)
 ·simp only [if_neg (show ¬ ((l.length : Int) = (m.length : Int)) by omega)]
  rw [show decide (l = m) = false from dF (fun e => h (by rw [e]))]
  exact Evl.now fun _ => rfl
theorem unlike_self (y : S55) : unlike y y = false := by simp [unlike]
set_option linter.unusedVariables false
set_option linter.unusedSimpArgs false
set_option maxRecDepth 100000
theorem rsynced_walk (A0 : Option Addr) (c0 : Nat) (l : List S55) (a1 : Bool) (a2 : Int) (A3 : Option Addr) (c3 : Nat) (l3 : List Int) (w : World) (hr0 : Kd.C k55 w A0 l.length l) (hc0 : l.length ≤ c0) (hr3 : Kd.C (Kd.int .i64) w A3 l3.length l3) (hc3 : l3.length ≤ c3) (hl : l.length ≤ 1000) :
  Calls Tryz.prog 28 #[.agg #[.slice A0 l.length c0, .bool a1, .int .i64 a2, .slice A3 l3.length c3]] w fun e w' => ∃ A c, e = .returned (.slice A (syn l).length c) ∧ (syn l).length ≤ c ∧ Kd.C k55 w' A (syn l).length (syn l) ∧ Below w.heap.size w w' := by
 obtain ⟨k, hk⟩ := (rsynced_evl (l := l) (by omega) a1 a2 l3).some_
 refine (dr26_synced.calls k (fun k_ => k_ < w.heap.size) A0 c0 l a1 a2 A3 c3 l3 _ w (Kd.V_mk hc0 (Kd.C_F k55_heap hr0)) hr3 hc3 hk).mono ?_
 rintro e w' ⟨v, rfl, ho, hb⟩
 obtain ⟨A, c, rfl, hc, hC⟩ := Kd.N_reads ho
 exact ⟨A, c, rfl, hc, hC, hb⟩
set_option maxHeartbeats 4000000 in
theorem ragree_walk (A0 : Option Addr) (c0 : Nat) (l : List S55) (a1 : Bool) (a2 : Int) (A3 : Option Addr) (c3 : Nat) (l3 : List Int) (w : World) (hr0 : Kd.C k55 w A0 l.length l) (hc0 : l.length ≤ c0) (hr3 : Kd.C (Kd.int .i64) w A3 l3.length l3) (hc3 : l3.length ≤ c3) (hl : l.length ≤ 1000) (hx : ∀ x ∈ l, x.f5.length ≤ 1000000) :
  Calls Tryz.prog 21 #[.agg #[.slice A0 l.length c0, .bool a1, .int .i64 a2, .slice A3 l3.length c3]] w fun e w' => e = .returned (.bool (agreeB l)) ∧ Below w.heap.size w w' := by
 have HX := am (show ∀ x ∈ syn l, x.f5.length ≤ 1000000 from fun x h => hx x (List.mem_filter.1 h).1)
 have hs := rsynced_walk A0 c0 l a1 a2 A3 c3 l3
 have kb := below_alloc (Below.refl w.heap.size w) (.cells #[.slice A0 l.length c0, .bool a1, .int .i64 a2, .slice A3 l3.length c3] 37)
 have HB := am kb
 have hs1 := hs _ (Kd.C_below hr0 kb) hc0 (Kd.C_below hr3 kb) hc3 hl
 have HLS := am (Nat.le_trans (syn_len l) hl)
 clear hs kb hr0 hc0 hr3 hc3 hl hx
 have HAG := am (show agreeB l = match syn l with | [] => true | y :: t => !((y :: t).any (unlike y)) from rfl)
 generalize agreeB l = r at HAG ⊢
 generalize syn l = s at hs1 HAG HX HLS
 go_enter Tryz.func21, Tryz.ntmps21
 go_wp2_with fail
 refine hs1.mono ?_
 rintro e w1 ⟨A, c, rfl, hc, hC⟩
 have HB1 := am (below_step HB.out hC.2)
 have HC := am hC.1
 clear hC hs1 hc HB
 go_wp2_with fail
 cases s with
 | nil =>
  refine wp_loop_rounds 1 ?_
  rw [rounds_succ]
  go_wp2_with fail
  go_ret
  refine ⟨?_, HB1.out⟩
  rw [HAG.out]
  rfl
 | cons y t =>
  obtain ⟨s, hs⟩ : ∃ s, y :: t = s := ⟨_, rfl⟩
  have HR : Aside0 (r = !(s.any (unlike y))) := ⟨by rw [HAG.out, ← hs]⟩
  have HY : Aside0 (∃ h : 0 < s.length, s[0] = y) := ⟨by subst hs; exact ⟨by simp, rfl⟩⟩
  clear HAG
  rw [hs] at HX HC HLS ⊢
  clear hs
  go_loopg [4] (s.length + 1) (fun kq v4 w' => ∃ i : Int, v4 = .int .i64 i ∧ Aside0 (kq + i = s.length + 2 ∧ 1 ≤ i) ∧ Aside0 (Below w.heap.size w w' ∧ Below w1.heap.size w1 w') ∧ Aside0 (∀ (j : Nat) (h : j < s.length), (j : Int) < i → unlike y s[j] = false))
  case atStart => exact ⟨1, rfl, ⟨by omega⟩, ⟨HB1.out, Below.refl _ _⟩, ⟨fun j h hj => by obtain rfl : j = 0 := (by omega); rw [HY.out.2]; exact unlike_self y⟩⟩
  case round =>
   obtain ⟨i, rfl, HK, HBB, HN⟩ := hrel
   by_cases hi : i < (s.length : Int)
   ·have h0 := HK.out.2
    obtain ⟨ad, A5, c5, e, _, _, _, _, x4, x5, x6, _, hc5, hC5⟩ := at_T55 (Kd.C_below HC.out HBB.out.2) i (by omega) hi
    obtain ⟨ad', B5, d5, e', _, _, _, _, y4, y5, y6, _, hd5, hD5⟩ := at_T55 (Kd.C_below HC.out HBB.out.2) 0 (by omega) (by omega)
    cases e
    cases e'
    rw [rd_n (by omega) hi] at x4 x5 x6 hc5 hC5
    rw [rd_n (by omega) (by omega)] at y4 y5 y6 hd5 hD5
    have hy0 : s[(0 : Int).toNat]'(by have := HY.out.1; exact this) = y := HY.out.2
    rw [hy0] at y4 y5 y6 hd5 hD5
    have hxm := HX.out _ (List.getElem_mem (show i.toNat < s.length by omega))
    have hxn := HN.out
    obtain ⟨x, hxx⟩ : ∃ x, s[i.toNat]'(by omega) = x := ⟨_, rfl⟩
    rw [hxx] at x4 x5 x6 hc5 hC5 hxm
    have HXX := am hxx
    clear hxx hy0 hxn
    have y4' : wr.cell? ⟨ad.block, ad.off + 4, none⟩ = some (.int .i64 y.f4) := by simpa [Addr.add] using y4
    have y6' : wr.cell? ⟨ad.block, ad.off + 6, none⟩ = some (.int .i64 y.f6) := by simpa [Addr.add] using y6
    have y5' : wr.cell? ⟨ad.block, ad.off + 5, none⟩ = some (.slice B5 y.f5.length d5) := by simpa [Addr.add] using y5
    clear y4 y5 y6
    have HC5 := am hC5
    have HD5 := am hD5
    have HH5 := am (And.intro hc5 (And.intro hd5 hxm))
    clear hC5 hD5 hc5 hd5 hxm
    have hlt : decide (i < (s.length : Int)) = true := dT hi
    have p0 := eq_true (show (0 : Int) ≤ i by omega)
    have p1 := eq_true hi
    have p2 := eq_true (show (0 : Int) < (s.length : Int) by omega)
    have p3 := eq_true (show 0 < s.length by omega)
    have hw1 : wrap64 (i + 1) = i + 1 := by have := HLS.out; unfold wrap64; omega
    have HU : Aside0 (unlike y x = if x.f4 = y.f4 then (if x.f6 = y.f6 then !decide (x.f5 = y.f5) else true) else true) := ⟨rfl⟩
    have HBAD : Aside0 (unlike y x = true → r = false) := ⟨fun h => by
     have : s.any (unlike y) = true := List.any_eq_true.2 ⟨_, List.getElem_mem (show i.toNat < s.length by omega), by rw [HXX.out]; exact h⟩
     rw [HR.out, this]; rfl⟩
    cases gk with
    | zero => exact absurd HK.out (by omega)
    | succ k1 =>
    by_cases h4 : x.f4 = y.f4
    ·have b4 : (x.f4 == y.f4) = true := by simp [h4]
     have n4 : (x.f4 != y.f4) = false := by simp [h4]
     by_cases h6 : x.f6 = y.f6
     ·have b6 : (x.f6 == y.f6) = true := by simp [h6]
      have n6 : (x.f6 != y.f6) = false := by simp [h6]
      obtain ⟨ks, hks⟩ := (rsame_evl (l := x.f5) (m := y.f5) HH5.out.2.2).some_
      have HU2 : Aside0 (unlike y x = !decide (x.f5 = y.f5)) := ⟨by rw [HU.out, if_pos h4, if_pos h6]⟩
      generalize decide (x.f5 = y.f5) = q at hks HU2
      have HKS := am hks
      clear h4 h6 hks
      go_upto_region 5 with fail
      have dd0 : wr.drew.cell? ⟨(ad.add (i.toNat * 8)).block, (ad.add (i.toNat * 8)).off + 4, none⟩ = some (.int .i64 x.f4) := x4
      have dd1 : wr.drew.cell? ⟨(ad.add (i.toNat * 8)).block, (ad.add (i.toNat * 8)).off + 6, none⟩ = some (.int .i64 x.f6) := x6
      have dd2 : wr.drew.cell? ⟨(ad.add (i.toNat * 8)).block, (ad.add (i.toNat * 8)).off + 5, none⟩ = some (.slice A5 x.f5.length c5) := x5
      have dd3 : wr.drew.cell? ⟨ad.block, ad.off + 4, none⟩ = some (.int .i64 y.f4) := y4'
      have dd4 : wr.drew.cell? ⟨ad.block, ad.off + 6, none⟩ = some (.int .i64 y.f6) := y6'
      have dd5 : wr.drew.cell? ⟨ad.block, ad.off + 5, none⟩ = some (.slice B5 y.f5.length d5) := y5'
      refine start_ (n := 35) (S := fun w' => w'.cell? ⟨(ad.add (i.toNat * 8)).block, (ad.add (i.toNat * 8)).off + 4, none⟩ = some (.int .i64 x.f4) ∧ w'.cell? ⟨(ad.add (i.toNat * 8)).block, (ad.add (i.toNat * 8)).off + 6, none⟩ = some (.int .i64 x.f6) ∧ w'.cell? ⟨(ad.add (i.toNat * 8)).block, (ad.add (i.toNat * 8)).off + 5, none⟩ = some (.slice A5 x.f5.length c5) ∧ w'.cell? ⟨ad.block, ad.off + 4, none⟩ = some (.int .i64 y.f4) ∧ w'.cell? ⟨ad.block, ad.off + 6, none⟩ = some (.int .i64 y.f6) ∧ w'.cell? ⟨ad.block, ad.off + 5, none⟩ = some (.slice B5 y.f5.length d5)) (ds := []) #[false, false, false, false, false, false, false, false, false, false, false, false, false, false, false, false, false, false, false, false, false, false, false, false, false, false, false, false, false, false, false, false, false, false, false] (by kernel_rfl) rfl rfl ⟨dd0, dd1, dd2, dd3, dd4, dd5⟩ (fun hHeld => ?_)
      refine pu 0 13 ?_
      refine pu 1 14 ?_
      refine pu 2 15 ?_
      refine pu 3 16 ?_
      refine pu 5 18 ?_
      refine pu 6 19 ?_
      refine pu 7 20 ?_
      refine tk6 4 17 ?_
      refine tk6 8 21 ?_
      refine pu 9 22 ?_
      refine pu 10 23 ?_
      refine pu 11 24 ?_
      refine pu 12 25 ?_
      refine pu 13 26 ?_
      refine pu 14 27 ?_
      refine pu 16 29 ?_
      refine pu 17 30 ?_
      refine pu 18 31 ?_
      refine tk6 15 28 ?_
      refine tk6 19 32 ?_
      refine pu 20 33 ?_
      refine pu 21 34 ?_
      refine pu 22 35 ?_
      refine pu 23 36 ?_
      refine pu 24 37 ?_
      refine pu 25 38 ?_
      refine pu 26 39 ?_
      refine pu 28 41 ?_
      refine pu 29 42 ?_
      refine pu 30 43 ?_
      refine tk6 27 40 ?_
      refine tk6 31 44 ?_
      refine on 32 45 (fun K hK => ?_)
      refine goes_ Tryz.func50 (by kernel_rfl) rfl #[.slice A5 x.f5.length c5, .slice B5 y.f5.length d5] (by rfl) rfl rfl lm ?_
      with_reducible refine (dr1_SameInts.calls ks A5 c5 x.f5 B5 d5 y.f5 q _ (Kd.C_below HC5.out (Below.refl _ _).drew) HH5.out.1 (Kd.C_below HD5.out (Below.refl _ _).drew) HH5.out.2.1 HKS.out).mono ?_
      rintro e w3 ⟨rfl, hd3⟩
      have hb3 := hd3.below
      have HBE := am (below_step HBB.out.1.drew hb3)
      have HBF := am (below_step HBB.out.2.drew hb3)
      have z0 := (hb3.cell (c_lt dd0)).trans dd0
      have z1 := (hb3.cell (c_lt dd1)).trans dd1
      have z2 := (hb3.cell (c_lt dd2)).trans dd2
      have z3 := (hb3.cell (c_lt dd3)).trans dd3
      have z4 := (hb3.cell (c_lt dd4)).trans dd4
      have z5 := (hb3.cell (c_lt dd5)).trans dd5
      clear hb3 hd3
      refine ⟨_, rfl, ?_⟩
      refine hK.out _ _ ⟨z0, z1, z2, z3, z4, z5⟩ (fun hHeld => ?_)
      clear hK K
      refine norm_ (a' := ?_) ?_ ?_
      rotate_left
      ·show Act.put _ (some 45) _ = _
       simp only [Act.put, sAa, sBb, sCc, i64_w, i32_w]
       rfl
      refine pu 33 46 ?_
      refine pu 34 47 ?_
      refine done_ (by kernel_rfl) ?_
      cases q with
      | false =>
       go_wp2_with fail
       go_ret
       refine ⟨?_, HBE.out⟩
       rw [HBAD.out HU2.out]
       rfl
      | true =>
       go_wp2_with fail
       go_roundg k1
       case measure => have := HK.out; omega
       case rel =>
        refine ⟨i + 1, by rw [hw1], ⟨by have := HK.out; omega⟩, ⟨HBE.out, HBF.out⟩, ⟨fun j h hj => ?_⟩⟩
        by_cases e : j = i.toNat
        ·subst e; rw [HXX.out]; exact HU2.out
        ·exact HN.out j h (by omega)
     ·have b6 : (x.f6 == y.f6) = false := by simp [h6]
      have n6 : (x.f6 != y.f6) = true := by simp [h6]
      have HU2 : Aside0 (unlike y x = true) := ⟨by rw [HU.out, if_pos h4, if_neg h6]⟩
      clear h4 h6
      go_wp2_with fail
      go_quiet (fail)
      go_wp2_with fail
      go_ret
      refine ⟨?_, pw_below_drewN HBB.out.1 nq⟩
      rw [HBAD.out HU2.out]
      rfl
    ·have b4 : (x.f4 == y.f4) = false := by simp [h4]
     have n4 : (x.f4 != y.f4) = true := by simp [h4]
     have HU2 : Aside0 (unlike y x = true) := ⟨by rw [HU.out, if_neg h4]⟩
     clear h4
     go_wp2_with fail
     go_quiet (fail)
     go_wp2_with fail
     go_ret
     refine ⟨?_, pw_below_drewN HBB.out.1 nq⟩
     rw [HBAD.out HU2.out]
     rfl
   ·have hlt : decide (i < (s.length : Int)) = false := dF hi
    go_wp2_with fail
    go_ret
    refine ⟨?_, HBB.out.1⟩
    have : s.any (unlike y) = false := List.any_eq_false.2 fun z hz => by
     obtain ⟨j, hj, rfl⟩ := List.mem_iff_getElem.1 hz
     rw [HN.out j hj (by omega)]
     decide
    rw [HR.out, this]
    rfl
theorem fmax_ge : ∀ (l : List Int) (a : Int), a ≤ l.foldl max a ∧ ∀ x ∈ l, x ≤ l.foldl max a
 | [], a => ⟨Int.le_refl _, by simp⟩
 | y :: t, a => by
  obtain ⟨h1, h2⟩ := fmax_ge t (max a y)
  refine ⟨Int.le_trans (by omega) h1, fun x hx => ?_⟩
  rcases List.mem_cons.1 hx with rfl | hx
  ·exact Int.le_trans (by omega) h1
  ·exact h2 x hx
theorem fmax_mem : ∀ (l : List Int) (a : Int), l.foldl max a = a ∨ l.foldl max a ∈ l
 | [], a => Or.inl rfl
 | y :: t, a => by
  rcases fmax_mem t (max a y) with h | h
  ·show t.foldl max (max a y) = a ∨ t.foldl max (max a y) ∈ y :: t
   rw [h]
   rcases (show max a y = a ∨ max a y = y by omega) with e | e
   ·exact Or.inl e
   ·rw [e]; exact Or.inr List.mem_cons_self
  ·exact Or.inr (List.mem_cons_of_mem _ h)
theorem fmin_le : ∀ (l : List Int) (a : Int), l.foldl min a ≤ a ∧ ∀ x ∈ l, l.foldl min a ≤ x
 | [], a => ⟨Int.le_refl _, by simp⟩
 | y :: t, a => by
  obtain ⟨h1, h2⟩ := fmin_le t (min a y)
  refine ⟨Int.le_trans h1 (by omega), fun x hx => ?_⟩
  rcases List.mem_cons.1 hx with rfl | hx
  ·exact Int.le_trans h1 (by omega)
  ·exact h2 x hx
theorem fmin_mem : ∀ (l : List Int) (a : Int), l.foldl min a = a ∨ l.foldl min a ∈ l
 | [], a => Or.inl rfl
 | y :: t, a => by
  rcases fmin_mem t (min a y) with h | h
  ·show t.foldl min (min a y) = a ∨ t.foldl min (min a y) ∈ y :: t
   rw [h]
   rcases (show min a y = a ∨ min a y = y by omega) with e | e
   ·exact Or.inl e
   ·rw [e]; exact Or.inr List.mem_cons_self
  ·exact Or.inr (List.mem_cons_of_mem _ h)
theorem head_mem {l : List Int} (h : l ≠ []) : l.headD 0 ∈ l := by
 cases l with
 | nil => exact absurd rfl h
 | cons y t => simp
theorem maxOf_mem {l : List Int} (h : l ≠ []) : Lib.maxOf l ∈ l := by
 rcases fmax_mem l (l.headD 0) with e | e
 ·unfold Lib.maxOf; rw [e]; exact head_mem h
 ·exact e
theorem minOf_mem {l : List Int} (h : l ≠ []) : Lib.minOf l ∈ l := by
 rcases fmin_mem l (l.headD 0) with e | e
 ·unfold Lib.minOf; rw [e]; exact head_mem h
 ·exact e
theorem le_maxOf {l : List Int} {x : Int} (h : x ∈ l) : x ≤ Lib.maxOf l := (fmax_ge l _).2 x h
theorem minOf_le {l : List Int} {x : Int} (h : x ∈ l) : Lib.minOf l ≤ x := (fmin_le l _).2 x h
theorem sprd_ok {l : List Int} : (sprd l).2 = true ↔ l ≠ [] ∧ l.all timeB = true := by
 unfold sprd
 rw [any_all]
 by_cases h : l = []
 ·simp [h]
 ·cases hb : l.all timeB <;> simp [h, hb]
def skewV (X Y : List Int) : Int × Bool := if (sprd X).2 = true ∧ (sprd Y).2 = true then (mx (wrap64 (Lib.maxOf X - Lib.minOf Y)) (wrap64 (Lib.maxOf Y - Lib.minOf X)), true) else (0, false)
theorem wskew_evl {l m : List S55} (hl : l.length ≤ 1000000) (hm : m.length ≤ 1000000) (a1 : Bool) (a2 : Int) (a3 : List Int) (b1 : Bool) (b2 : Int) (b3 : List Int) :
  Evl (fun k => watch_Skew.f k l a1 a2 a3 m b1 b2 b3) (skewV ((syn l).map (·.f3)) ((syn m).map (·.f3))) := by
 unfold watch_Skew.f
 refine Evl.bind (starts_evl hl a1 a2 a3) ?_
 refine Evl.bind (starts_evl hm b1 b2 b3) ?_
 have h1 : ((syn l).map (·.f3)).length ≤ 1000000 := by have := syn_len l; rw [List.length_map]; omega
 have h2 : ((syn m).map (·.f3)).length ≤ 1000000 := by have := syn_len m; rw [List.length_map]; omega
 generalize (syn l).map (·.f3) = X at h1 ⊢
 generalize (syn m).map (·.f3) = Y at h2 ⊢
 have e1 : gauge_Spread.f X = some ((sprd X).1, (sprd X).2) := if_pos h1
 have e2 : gauge_Spread.f Y = some ((sprd Y).1, (sprd Y).2) := if_pos h2
 simp only [e1, e2, Option.bind_some]
 unfold skewV
 by_cases hX : (sprd X).2 = true
 ·simp only [if_pos hX]
  by_cases hY : (sprd Y).2 = true
  ·rw [if_pos ⟨hX, hY⟩]
   have nX := (sprd_ok.1 hX).1
   have nY := (sprd_ok.1 hY).1
   have lX := List.length_pos_iff.2 nX
   have lY := List.length_pos_iff.2 nY
   refine Evl.succ (Evl.now fun _ => ?_)
   simp only [watch_Skew.j0, hY]
   simp only [show ((!true) = true) = False by simp, if_false]
   rw [show slices_Max_int64_int64.f X = some (Lib.maxOf X) from if_pos ⟨lX, h1⟩, show slices_Min_int64_int64.f Y = some (Lib.minOf Y) from if_pos ⟨lY, h2⟩, show slices_Max_int64_int64.f Y = some (Lib.maxOf Y) from if_pos ⟨lY, h2⟩, show slices_Min_int64_int64.f X = some (Lib.minOf X) from if_pos ⟨lX, h1⟩]
   rfl
  ·rw [if_neg (fun h => hY h.2)]
   refine Evl.succ (Evl.now fun _ => ?_)
   simp only [watch_Skew.j0, show (sprd Y).2 = false by simpa using hY]
   rfl
 ·rw [if_neg (fun h => hX h.1)]
  simp only [if_neg hX]
  exact Evl.succ (Evl.now fun _ => rfl)
def dst (x y : Int) : Int := wrap64 (max x y - min x y)
theorem two_evl (x y : Int) : Evl (fun k => dr10_Spread.f k [x, y]) (if timeB x = true ∧ timeB y = true then (dst x y, true) else (0, false)) := by
 have h := rspread_evl (l := [x, y]) (by simp)
 have e : sprd [x, y] = if timeB x = true ∧ timeB y = true then (dst x y, true) else (0, false) := by
  unfold sprd
  cases hx : timeB x <;> cases hy : timeB y <;> simp [dst, Lib.maxOf, Lib.minOf, hx, hy]
 rw [e] at h
 exact h
def inn (x : Int) (Y : List Int) (m : Int) : Int := Y.foldl (fun m y => max m (dst x y)) m
theorem skew_l1 {X Y : List Int} (hX : X.length ≤ 1000000) (hY : Y.length ≤ 1000000) {i : Nat} (hi : i < X.length) (tx : timeB X[i] = true) (ty : Y.all timeB = true) {R : Int × Bool} : ∀ (d j : Nat) (m : Int), j + d = Y.length → Evl (fun k => dr26_Skew.l0 k X Y (inn X[i] (Y.drop j) m) ((i + 1 : Nat) : Int)) R → Evl (fun k => dr26_Skew.l1 k X Y m (i : Int) (j : Int)) R
 | 0, j, m, h, hR => by
  refine Evl.succ ?_
  simp only [dr26_Skew.l1]
  simp only [if_neg (show ¬ ((j : Int) < (Y.length : Int)) by omega), w64n (show i < 2000000 by omega)]
  rw [List.drop_eq_nil_iff.2 (show Y.length ≤ j by omega)] at hR
  exact hR
 | d + 1, j, m, h, hR => by
  have hj : j < Y.length := by omega
  refine Evl.succ ?_
  simp only [dr26_Skew.l1]
  simp only [if_pos (show (j : Int) < (Y.length : Int) by omega), if_pos (show (i : Int) < (X.length : Int) by omega), if_pos (show (0 : Int) ≤ (i : Int) by omega), if_pos (show (0 : Int) ≤ (j : Int) by omega), w64n (show j < 2000000 by omega), rd_i hi, rd_i hj]
  have t2 := two_evl X[i] Y[j]
  rw [if_pos ⟨tx, List.all_eq_true.1 ty _ (List.getElem_mem hj)⟩] at t2
  refine Evl.bind t2 ?_
  simp only [if_true, mx_max]
  refine skew_l1 hX hY hi tx ty d (j + 1) _ (by omega) ?_
  rw [List.drop_eq_getElem_cons hj] at hR
  exact hR
theorem skew_l0 {X Y : List Int} (hX : X.length ≤ 1000000) (hY : Y.length ≤ 1000000) (tx : X.all timeB = true) (ty : Y.all timeB = true) : ∀ (d i : Nat) (m : Int), i + d = X.length → Evl (fun k => dr26_Skew.l0 k X Y m (i : Int)) ((X.drop i).foldl (fun m x => inn x Y m) m, true)
 | 0, i, m, h => by
  refine Evl.succ ?_
  simp only [dr26_Skew.l0]
  simp only [if_neg (show ¬ ((i : Int) < (X.length : Int)) by omega), List.drop_eq_nil_iff.2 (show X.length ≤ i by omega)]
  exact Evl.now fun _ => rfl
 | d + 1, i, m, h => by
  have hi : i < X.length := by omega
  refine Evl.succ ?_
  simp only [dr26_Skew.l0]
  simp only [if_pos (show (i : Int) < (X.length : Int) by omega)]
  rw [List.drop_eq_getElem_cons hi]
  refine skew_l1 hX hY hi (List.all_eq_true.1 tx _ (List.getElem_mem hi)) ty Y.length 0 m (by omega) ?_
  exact skew_l0 hX hY tx ty d (i + 1) _ (by omega)
theorem bad_l1 {X Y : List Int} (hX : X.length ≤ 1000000) (hY : Y.length ≤ 1000000) {i : Nat} (hi : i < X.length) : ∀ (d j : Nat) (m : Int), j + d = Y.length → (timeB X[i] = true ∧ (Y.drop j).all timeB = true → ∀ m, Evl (fun k => dr26_Skew.l0 k X Y m ((i + 1 : Nat) : Int)) (0, false)) → (¬ timeB X[i] = true → j < Y.length) → Evl (fun k => dr26_Skew.l1 k X Y m (i : Int) (j : Int)) (0, false)
 | 0, j, m, h, hc, hn => by
  refine Evl.succ ?_
  simp only [dr26_Skew.l1]
  simp only [if_neg (show ¬ ((j : Int) < (Y.length : Int)) by omega), w64n (show i < 2000000 by omega)]
  rw [List.drop_eq_nil_iff.2 (show Y.length ≤ j by omega)] at hc
  exact hc ⟨Classical.byContradiction fun hx => by have := hn hx; omega, rfl⟩ m
 | d + 1, j, m, h, hc, hn => by
  have hj : j < Y.length := by omega
  refine Evl.succ ?_
  simp only [dr26_Skew.l1]
  simp only [if_pos (show (j : Int) < (Y.length : Int) by omega), if_pos (show (i : Int) < (X.length : Int) by omega), if_pos (show (0 : Int) ≤ (i : Int) by omega), if_pos (show (0 : Int) ≤ (j : Int) by omega), w64n (show j < 2000000 by omega), rd_i hi, rd_i hj]
  refine Evl.bind (two_evl X[i] Y[j]) ?_
  by_cases ht : timeB X[i] = true ∧ timeB Y[j] = true
  ·simp only [if_pos ht, if_true]
   refine bad_l1 hX hY hi d (j + 1) _ (by omega) (fun h2 => hc ⟨h2.1, ?_⟩) (fun hx => absurd ht.1 hx)
   rw [List.drop_eq_getElem_cons hj, List.all_cons, ht.2, h2.2]
   rfl
  ·simp only [if_neg ht]
   exact Evl.now fun _ => rfl
theorem bad_l0 {X Y : List Int} (hX : X.length ≤ 1000000) (hY : Y.length ≤ 1000000) (nY : Y ≠ []) : ∀ (d i : Nat) (m : Int), i + d = X.length → (¬ (X.drop i).all timeB = true ∨ ¬ Y.all timeB = true ∧ i < X.length) → Evl (fun k => dr26_Skew.l0 k X Y m (i : Int)) (0, false)
 | 0, i, m, h, hb => by
  rcases hb with hb | hb
  ·rw [List.drop_eq_nil_iff.2 (show X.length ≤ i by omega)] at hb
   exact absurd rfl hb
  ·omega
 | d + 1, i, m, h, hb => by
  have hi : i < X.length := by omega
  refine Evl.succ ?_
  simp only [dr26_Skew.l0]
  simp only [if_pos (show (i : Int) < (X.length : Int) by omega)]
  refine bad_l1 hX hY hi Y.length 0 m (by omega) (fun h2 m2 => ?_) (fun _ => List.length_pos_iff.2 nY)
  refine bad_l0 hX hY nY d (i + 1) m2 (by omega) (Or.inl fun h3 => ?_)
  rcases hb with hb | hb
  ·apply hb
   rw [List.drop_eq_getElem_cons hi, List.all_cons, h2.1, h3]
   rfl
  ·exact hb.1 (by simpa using h2.2)
theorem inn_spec (x : Int) : ∀ (Y : List Int) (m : Int), m ≤ inn x Y m ∧ (∀ y ∈ Y, dst x y ≤ inn x Y m) ∧ (inn x Y m = m ∨ ∃ y ∈ Y, inn x Y m = dst x y)
 | [], m => ⟨Int.le_refl _, by simp, Or.inl rfl⟩
 | z :: t, m => by
  obtain ⟨h1, h2, h3⟩ := inn_spec x t (max m (dst x z))
  have e : inn x (z :: t) m = inn x t (max m (dst x z)) := rfl
  rw [e]
  refine ⟨Int.le_trans (by omega) h1, fun y hy => ?_, ?_⟩
  ·rcases List.mem_cons.1 hy with rfl | hy
   ·exact Int.le_trans (by omega) h1
   ·exact h2 y hy
  ·rcases h3 with h3 | ⟨y, hy, h3⟩
   ·rw [h3]
    rcases (show max m (dst x z) = m ∨ max m (dst x z) = dst x z by omega) with e | e
    ·exact Or.inl e
    ·exact Or.inr ⟨z, List.mem_cons_self, e⟩
   ·exact Or.inr ⟨y, List.mem_cons_of_mem _ hy, h3⟩
theorem out_spec (Y : List Int) : ∀ (X : List Int) (m : Int), m ≤ X.foldl (fun m x => inn x Y m) m ∧ (∀ x ∈ X, ∀ y ∈ Y, dst x y ≤ X.foldl (fun m x => inn x Y m) m) ∧ (X.foldl (fun m x => inn x Y m) m = m ∨ ∃ x ∈ X, ∃ y ∈ Y, X.foldl (fun m x => inn x Y m) m = dst x y)
 | [], m => ⟨Int.le_refl _, by simp, Or.inl rfl⟩
 | z :: t, m => by
  obtain ⟨h1, h2, h3⟩ := out_spec Y t (inn z Y m)
  obtain ⟨k1, k2, k3⟩ := inn_spec z Y m
  refine ⟨Int.le_trans k1 h1, fun x hx y hy => ?_, ?_⟩
  ·rcases List.mem_cons.1 hx with rfl | hx
   ·exact Int.le_trans (k2 y hy) h1
   ·exact h2 x hx y hy
  ·rcases h3 with h3 | ⟨x, hx, y, hy, h3⟩
   ·rw [List.foldl_cons, h3]
    rcases k3 with e | ⟨y, hy, e⟩
    ·exact Or.inl e
    ·exact Or.inr ⟨z, List.mem_cons_self, y, hy, e⟩
   ·exact Or.inr ⟨x, List.mem_cons_of_mem _ hx, y, hy, h3⟩
theorem time_bd {x : Int} (h : timeB x = true) : -1099511627776 ≤ x ∧ x ≤ 1099511627776 := by
 simpa [timeB] using h
theorem skew_max {X Y : List Int} (nX : X ≠ []) (nY : Y ≠ []) (tx : X.all timeB = true) (ty : Y.all timeB = true) :
  X.foldl (fun m x => inn x Y m) 0 = mx (wrap64 (Lib.maxOf X - Lib.minOf Y)) (wrap64 (Lib.maxOf Y - Lib.minOf X)) := by
 obtain ⟨h1, h2, h3⟩ := out_spec Y X 0
 have bX := fun x (h : x ∈ X) => time_bd (List.all_eq_true.1 tx x h)
 have bY := fun y (h : y ∈ Y) => time_bd (List.all_eq_true.1 ty y h)
 have a1 := bX _ (maxOf_mem nX)
 have a2 := bX _ (minOf_mem nX)
 have a3 := bY _ (maxOf_mem nY)
 have a4 := bY _ (minOf_mem nY)
 have c1 := minOf_le (maxOf_mem nX)
 have c2 := minOf_le (maxOf_mem nY)
 have hd : ∀ x ∈ X, ∀ y ∈ Y, dst x y = max x y - min x y := fun x hx y hy => by
  have := bX x hx; have := bY y hy
  unfold dst wrap64; omega
 have d1 := h2 _ (maxOf_mem nX) _ (minOf_mem nY)
 have d2 := h2 _ (minOf_mem nX) _ (maxOf_mem nY)
 rw [hd _ (maxOf_mem nX) _ (minOf_mem nY)] at d1
 rw [hd _ (minOf_mem nX) _ (maxOf_mem nY)] at d2
 rw [mx_max, show wrap64 (Lib.maxOf X - Lib.minOf Y) = Lib.maxOf X - Lib.minOf Y by unfold wrap64; omega, show wrap64 (Lib.maxOf Y - Lib.minOf X) = Lib.maxOf Y - Lib.minOf X by unfold wrap64; omega]
 rcases h3 with h3 | ⟨x, hx, y, hy, h3⟩
 ·omega
 ·have := le_maxOf hx; have := minOf_le hx; have := le_maxOf hy; have := minOf_le hy
  rw [hd x hx y hy] at h3
  omega
theorem rskew_evl {l m : List S55} (hl : l.length ≤ 1000000) (hm : m.length ≤ 1000000) (a1 : Bool) (a2 : Int) (a3 : List Int) (b1 : Bool) (b2 : Int) (b3 : List Int) :
  Evl (fun k => dr26_Skew.f k l a1 a2 a3 m b1 b2 b3) (skewV ((syn l).map (·.f3)) ((syn m).map (·.f3))) := by
 unfold dr26_Skew.f
 have s1 := syn_len l
 have s2 := syn_len m
 refine Evl.bind (rsynced_evl hl a1 a2 a3) ?_
 refine Evl.bind (rstarts_evl (by omega)) ?_
 refine Evl.bind (rsynced_evl hm b1 b2 b3) ?_
 refine Evl.bind (rstarts_evl (by omega)) ?_
 have h1 : ((syn l).map (·.f3)).length ≤ 1000000 := by rw [List.length_map]; omega
 have h2 : ((syn m).map (·.f3)).length ≤ 1000000 := by rw [List.length_map]; omega
 generalize (syn l).map (·.f3) = X at h1 ⊢
 generalize (syn m).map (·.f3) = Y at h2 ⊢
 unfold skewV
 by_cases nX : X = []
 ·subst nX
  rw [if_neg (fun h => (sprd_ok.1 h.1).1 rfl)]
  simp only [List.length_nil, Int.ofNat_zero, if_true]
  exact Evl.succ (Evl.now fun _ => rfl)
 ·have lX := List.length_pos_iff.2 nX
  simp only [if_neg (show ¬ ((X.length : Int) = 0) by omega)]
  by_cases nY : Y = []
  ·subst nY
   rw [if_neg (fun h => (sprd_ok.1 h.2).1 rfl)]
   exact Evl.succ (Evl.now fun _ => rfl)
  ·have lY := List.length_pos_iff.2 nY
   simp only [show ((Y.length : Int) == 0) = false by simp; omega]
   refine Evl.succ ?_
   simp only [dr26_Skew.j0]
   simp only [show (false = true) = False by simp, if_false]
   by_cases tx : X.all timeB = true
   ·by_cases ty : Y.all timeB = true
    ·rw [if_pos ⟨sprd_ok.2 ⟨nX, tx⟩, sprd_ok.2 ⟨nY, ty⟩⟩, ← skew_max nX nY tx ty]
     exact skew_l0 h1 h2 tx ty X.length 0 0 (by omega)
    ·rw [if_neg (fun h => ty (sprd_ok.1 h.2).2)]
     exact bad_l0 h1 h2 nY X.length 0 0 (by omega) (Or.inr ⟨ty, lX⟩)
   ·rw [if_neg (fun h => tx (sprd_ok.1 h.1).2)]
    exact bad_l0 h1 h2 nY X.length 0 0 (by omega) (Or.inl tx)
end Go.Proofs.YtbefbhghmommhaaGreatDoor.MWo
namespace Go.Proofs.YtbefbhghmommhaaGreatDoor.MWo
open Go.RowKit Go.Proofs.YtbefbhghmommhaaGreatDoorW.PrintWords Go.Proofs.YtbefbhghmommhaaGreatDoorW.PrintLast Go.Proofs.YtbefbhghmommhaaGreatDoorW.PrintMore
attribute [local go_sem] mp_u32s mp_u32m mp_u8s mp_u8m max2_int min2_int max_two min_two max_three min_three max_four min_four
set_option linter.unusedVariables false
set_option linter.unusedSimpArgs false
mutual
def dl28_small.l0 : Nat → List (S37) → Int → Option (Bool)
 | 0, _, _ => none
 | k + 1, x0, x3 => if x3 < (x0.length : Int) then (if 0 ≤ x3 then (if (((rd_T37 x0 x3).f0).length : Int) > 20 then (dl28_small.j1 k x0 x3 true) else (dl28_small.j1 k x0 x3 (decide ((((rd_T37 x0 x3).f1.f2).length : Int) > 20)))) else (none)) else (some true)
def dl28_small.j1 : Nat → List (S37) → Int → Bool → Option (Bool)
 | 0, _, _, _ => none
 | k + 1, x0, x3, x30 => if x30 = true then (some false) else (dl28_small.l1 k x0 x3 0)
def dl28_small.l1 : Nat → List (S37) → Int → Int → Option (Bool)
 | 0, _, _, _ => none
 | k + 1, x0, x3, x4 => if 0 ≤ x3 then (if x3 < (x0.length : Int) then (if x4 < (((rd_T37 x0 x3).f0).length : Int) then (if 0 ≤ x4 then (if (((rd_T55 ((rd_T37 x0 x3).f0) x4).f5).length : Int) > 20 then (some false) else (dl28_small.l1 k x0 x3 (wrap64 (x4 + 1)))) else (none)) else (dl28_small.l0 k x0 (wrap64 (x3 + 1)))) else (none)) else (none)
end
def dl28_small.f (k : Nat) (l0 : List (S37)) : Option (Bool) := if (l0.length : Int) > 20 then (some false) else (dl28_small.l0 k l0 0)
set_option maxHeartbeats 8000000 in
set_option maxRecDepth 100000 in
theorem dl28_small.calls (k : Nat) (A0 : Option Addr) (c0 : Nat) (l0 : List (S37)) (r : Bool) (w : World) (hr0 : Kd.C k37 w A0 l0.length l0) (hc0 : l0.length ≤ c0) (h : dl28_small.f k l0 = some r) :
  Calls Tryz.prog 8 #[.slice A0 l0.length c0] w fun e w' => e = .returned (.bool r) ∧ Drawn0 w w' := by
 have HR0 := am hr0
 have HC0 := am hc0
 clear hr0 hc0
 have H : (if (l0.length : Int) > 20 then (some false) else (dl28_small.l0 k l0 0)) = some r := h
 clear h
 by_cases c2 : (l0.length : Int) > 20
 ·rw [if_pos c2] at H
  have c2b0 : decide (20 < (l0.length : Int)) = true := dT c2
  have c2b1 : decide (20 < l0.length) = true := dT (by omega)
  clear c2
  obtain rfl := Option.some.inj H
  go_enter Tryz.func8, Tryz.ntmps8
  go_wp2
  go_ret
  exact ⟨sd, dn⟩
 ·rw [if_neg c2] at H
  have c2b0 : decide (20 < (l0.length : Int)) = false := dF c2
  have c2b1 : decide (20 < l0.length) = false := dF (by omega)
  clear c2
  have H' := am H
  clear H
  go_enter Tryz.func8, Tryz.ntmps8
  go_wp2
  go_loopg [3] k (fun kq v3 w' => ∃ (x3_1 : Int), v3 = .int .i64 x3_1 ∧ Aside0 (dl28_small.l0 kq l0 x3_1 = some r) ∧ Aside0 (kq ≤ k) ∧ Drawn0 w w')
  case atStart => exact ⟨(0), bx, H', ⟨Nat.le_refl _⟩, dn⟩
  case round =>
   clear H'
   try clear c2
   try clear c2b0
   try clear c2b1
   try clear p2
   obtain ⟨x3_1, rfl, HA, HK1, ⟨m1, rfl⟩⟩ := hrel
   cases gk with
   | zero => exact absurd HA.out (by simp [dl28_small.l0])
   | succ k1 =>
    have H := HA.out
    clear HA
    simp only [dl28_small.l0] at H
    by_cases c3 : x3_1 < (l0.length : Int)
    ·rw [if_pos c3] at H
     have c3b0 : decide (x3_1 < (l0.length : Int)) = true := dT c3
     clear c3
     have HC4 := am H
     clear H
     go_upto_region 6 with (fail)
     go_cut [30] (fun v30 wc => ∃ (kq : Nat) (x30_3 : Bool), v30 = .bool x30_3 ∧ Aside0 (dl28_small.j1 kq l0 x3_1 x30_3 = some r) ∧ Aside0 (kq ≤ k1) ∧ Drawn0 w wc)
     case first =>
      have H := HC4.out
      clear HC4
      by_cases c5 : 0 ≤ x3_1
      ·rw [if_pos c5] at H
       have c5b0 : decide (0 ≤ x3_1) = true := dT c5
       clear c5
       (first | rw [c5b0] | (simp only [i64_w, i32_w]; rw [c5b0]) | skip)
       by_cases c6 : (((rd_T37 l0 x3_1).f0).length : Int) > 20
       ·rw [if_pos c6] at H
        have c6b0 : decide (20 < (((rd_T37 l0 x3_1).f0).length : Int)) = true := dT c6
        have c6b1 : decide (20 < ((rd_T37 l0 x3_1).f0).length) = true := dT (by omega)
        clear c6
        have H' := am H
        clear H
        have p184 : 0 ≤ (x3_1 : Int) := oT asm
        have q184 : x3_1 < (l0.length : Int) := oT asm
        obtain ⟨ad184, A184_0, c184_0, A184_3, c184_3, e184, hx184_0, hx184_1, hx184_2, hx184_3, hl184_0, hi184_0, hl184_3, hi184_3⟩ := at_T37 HR0.out x3_1 p184 q184
        cases e184
        have HR184_0 := am hi184_0
        have HC184_0 := am hl184_0
        clear hi184_0 hl184_0
        have HR184_3 := am hi184_3
        have HC184_3 := am hl184_3
        clear hi184_3 hl184_3
        replace p184 := eq_true p184
        replace q184 := eq_true q184
        go_wp2
        go_meet
        case rel => exact ⟨_, (true), bx, H', ⟨by have := HK1.out; first | omega | exact Nat.le_refl _⟩, dn⟩
       ·rw [if_neg c6] at H
        have c6b0 : decide (20 < (((rd_T37 l0 x3_1).f0).length : Int)) = false := dF c6
        have c6b1 : decide (20 < ((rd_T37 l0 x3_1).f0).length) = false := dF (by omega)
        clear c6
        have H' := am H
        clear H
        have p184 : 0 ≤ (x3_1 : Int) := oT asm
        have q184 : x3_1 < (l0.length : Int) := oT asm
        obtain ⟨ad184, A184_0, c184_0, A184_3, c184_3, e184, hx184_0, hx184_1, hx184_2, hx184_3, hl184_0, hi184_0, hl184_3, hi184_3⟩ := at_T37 HR0.out x3_1 p184 q184
        cases e184
        have HR184_0 := am hi184_0
        have HC184_0 := am hl184_0
        clear hi184_0 hl184_0
        have HR184_3 := am hi184_3
        have HC184_3 := am hl184_3
        clear hi184_3 hl184_3
        replace p184 := eq_true p184
        replace q184 := eq_true q184
        have p185 : 0 ≤ (x3_1 : Int) := oT asm
        have q185 : x3_1 < (l0.length : Int) := oT asm
        obtain ⟨ad185, A185_0, c185_0, A185_3, c185_3, e185, hx185_0, hx185_1, hx185_2, hx185_3, hl185_0, hi185_0, hl185_3, hi185_3⟩ := at_T37 HR0.out x3_1 p185 q185
        obtain rfl : ad184 = ad185 := (by injection e185)
        have HR185_0 := am hi185_0
        have HC185_0 := am hl185_0
        clear hi185_0 hl185_0
        have HR185_3 := am hi185_3
        have HC185_3 := am hl185_3
        clear hi185_3 hl185_3
        replace p185 := eq_true p185
        replace q185 := eq_true q185
        have ea_ := Option.some.inj (hx184_0.symm.trans hx185_0)
        injection ea_ with ea_ en_ ec_
        subst ea_
        subst ec_
        clear en_
        have ea_ := Option.some.inj (hx184_3.symm.trans hx185_3)
        injection ea_ with ea_ en_ ec_
        subst ea_
        subst ec_
        clear en_
        go_wp2
        go_meet
        case rel => exact ⟨_, (decide ((((rd_T37 l0 x3_1).f1.f2).length : Int) > 20)), bx, H', ⟨by have := HK1.out; first | omega | exact Nat.le_refl _⟩, dn⟩
      ·rw [if_neg c5] at H
       exact absurd H (by simp)
     case rest =>
      clear HC4
      try clear c1
      try clear p1
      try clear q1
      try clear hx1
      try clear c2
      try clear c2b0
      try clear c2b1
      try clear p2
      try clear c3
      try clear c3b0
      try clear c5
      try clear c5b0
      try clear c6
      try clear c6b0
      try clear c6b1
      try clear hx184_0
      try clear hx184_1
      try clear hx184_2
      try clear hx184_3
      try clear hx185_0
      try clear hx185_1
      try clear hx185_2
      try clear hx185_3
      try clear p184
      try clear p185
      try clear p2
      try clear q184
      try clear q185
      obtain ⟨kq, x30_3, rfl, HA, HJ3, ⟨mc3, rfl⟩⟩ := hcut
      cases kq with
      | zero => exact absurd HA.out (by simp [dl28_small.j1])
      | succ kj3 =>
       have H := HA.out
       clear HA
       simp only [dl28_small.j1] at H
       by_cases c7 : x30_3 = true
       ·subst c7
        have H1 : (some false) = some r := by rw [if_pos rfl] at H; exact H
        clear H
        have H := H1
        clear H1
        obtain rfl := Option.some.inj H
        go_wp2
        go_ret
        exact ⟨sd, dn⟩
       ·replace c7 := Bool.eq_false_iff.mpr c7
        subst c7
        have H1 : (dl28_small.l1 kj3 l0 x3_1 0) = some r := by rw [if_neg (show ¬ (false = true) by decide)] at H; exact H
        clear H
        have H := H1
        clear H1
        have H' := am H
        clear H
        go_wp2
        go_loopg [4] kj3 (fun kq v4 w' => ∃ (x4_3 : Int), v4 = .int .i64 x4_3 ∧ Aside0 (dl28_small.l1 kq l0 x3_1 x4_3 = some r) ∧ Aside0 (kq ≤ kj3) ∧ Drawn0 w w')
        case atStart => exact ⟨(0), bx, H', ⟨Nat.le_refl _⟩, dn⟩
        case round =>
         clear H'
         try clear c1
         try clear p1
         try clear q1
         try clear hx1
         try clear c2
         try clear c2b0
         try clear c2b1
         try clear p2
         try clear c3
         try clear c3b0
         try clear c5
         try clear c5b0
         try clear c6
         try clear c6b0
         try clear c6b1
         try clear c7
         try clear hx184_0
         try clear hx184_1
         try clear hx184_2
         try clear hx184_3
         try clear hx185_0
         try clear hx185_1
         try clear hx185_2
         try clear hx185_3
         try clear p1
         try clear p184
         try clear p185
         try clear p2
         try clear q1
         try clear q184
         try clear q185
         obtain ⟨x4_3, rfl, HA, HK3, ⟨m3, rfl⟩⟩ := hrel
         cases gk with
         | zero => exact absurd HA.out (by simp [dl28_small.l1])
         | succ k3 =>
          have H := HA.out
          clear HA
          simp only [dl28_small.l1] at H
          by_cases c8 : 0 ≤ x3_1
          ·rw [if_pos c8] at H
           have c8b0 : decide (0 ≤ x3_1) = true := dT c8
           clear c8
           by_cases c9 : x3_1 < (l0.length : Int)
           ·rw [if_pos c9] at H
            have c9b0 : decide (x3_1 < (l0.length : Int)) = true := dT c9
            clear c9
            by_cases c10 : x4_3 < (((rd_T37 l0 x3_1).f0).length : Int)
            ·rw [if_pos c10] at H
             have c10b0 : decide (x4_3 < (((rd_T37 l0 x3_1).f0).length : Int)) = true := dT c10
             clear c10
             by_cases c11 : 0 ≤ x4_3
             ·rw [if_pos c11] at H
              have c11b0 : decide (0 ≤ x4_3) = true := dT c11
              clear c11
              by_cases c12 : (((rd_T55 ((rd_T37 l0 x3_1).f0) x4_3).f5).length : Int) > 20
              ·rw [if_pos c12] at H
               have c12b0 : decide (20 < (((rd_T55 ((rd_T37 l0 x3_1).f0) x4_3).f5).length : Int)) = true := dT c12
               have c12b1 : decide (20 < ((rd_T55 ((rd_T37 l0 x3_1).f0) x4_3).f5).length) = true := dT (by omega)
               clear c12
               obtain rfl := Option.some.inj H
               have p186 : 0 ≤ (x3_1 : Int) := oT asm
               have q186 : x3_1 < (l0.length : Int) := oT asm
               obtain ⟨ad186, A186_0, c186_0, A186_3, c186_3, e186, hx186_0, hx186_1, hx186_2, hx186_3, hl186_0, hi186_0, hl186_3, hi186_3⟩ := at_T37 HR0.out x3_1 p186 q186
               cases e186
               have HR186_0 := am hi186_0
               have HC186_0 := am hl186_0
               clear hi186_0 hl186_0
               have HR186_3 := am hi186_3
               have HC186_3 := am hl186_3
               clear hi186_3 hl186_3
               replace p186 := eq_true p186
               replace q186 := eq_true q186
               have p187 : 0 ≤ (x3_1 : Int) := oT asm
               have q187 : x3_1 < (l0.length : Int) := oT asm
               obtain ⟨ad187, A187_0, c187_0, A187_3, c187_3, e187, hx187_0, hx187_1, hx187_2, hx187_3, hl187_0, hi187_0, hl187_3, hi187_3⟩ := at_T37 HR0.out x3_1 p187 q187
               obtain rfl : ad186 = ad187 := (by injection e187)
               have HR187_0 := am hi187_0
               have HC187_0 := am hl187_0
               clear hi187_0 hl187_0
               have HR187_3 := am hi187_3
               have HC187_3 := am hl187_3
               clear hi187_3 hl187_3
               replace p187 := eq_true p187
               replace q187 := eq_true q187
               have ea_ := Option.some.inj (hx186_0.symm.trans hx187_0)
               injection ea_ with ea_ en_ ec_
               subst ea_
               subst ec_
               clear en_
               have ea_ := Option.some.inj (hx186_3.symm.trans hx187_3)
               injection ea_ with ea_ en_ ec_
               subst ea_
               subst ec_
               clear en_
               have p188 : 0 ≤ (x4_3 : Int) := oT asm
               have q188 : x4_3 < (((rd_T37 l0 x3_1).f0).length : Int) := oT asm
               obtain ⟨ad188, A188_5, c188_5, e188, hx188_0, hx188_1, hx188_2, hx188_3, hx188_4, hx188_5, hx188_6, hx188_7, hl188_5, hi188_5⟩ := at_T55 HR187_0.out x4_3 p188 q188
               cases e188
               have HR188_5 := am hi188_5
               have HC188_5 := am hl188_5
               clear hi188_5 hl188_5
               replace p188 := eq_true p188
               replace q188 := eq_true q188
               go_wp2
               go_ret
               exact ⟨sd, dn⟩
              ·rw [if_neg c12] at H
               have c12b0 : decide (20 < (((rd_T55 ((rd_T37 l0 x3_1).f0) x4_3).f5).length : Int)) = false := dF c12
               have c12b1 : decide (20 < ((rd_T55 ((rd_T37 l0 x3_1).f0) x4_3).f5).length) = false := dF (by omega)
               clear c12
               have H' := am H
               clear H
               have p186 : 0 ≤ (x3_1 : Int) := oT asm
               have q186 : x3_1 < (l0.length : Int) := oT asm
               obtain ⟨ad186, A186_0, c186_0, A186_3, c186_3, e186, hx186_0, hx186_1, hx186_2, hx186_3, hl186_0, hi186_0, hl186_3, hi186_3⟩ := at_T37 HR0.out x3_1 p186 q186
               cases e186
               have HR186_0 := am hi186_0
               have HC186_0 := am hl186_0
               clear hi186_0 hl186_0
               have HR186_3 := am hi186_3
               have HC186_3 := am hl186_3
               clear hi186_3 hl186_3
               replace p186 := eq_true p186
               replace q186 := eq_true q186
               have p187 : 0 ≤ (x3_1 : Int) := oT asm
               have q187 : x3_1 < (l0.length : Int) := oT asm
               obtain ⟨ad187, A187_0, c187_0, A187_3, c187_3, e187, hx187_0, hx187_1, hx187_2, hx187_3, hl187_0, hi187_0, hl187_3, hi187_3⟩ := at_T37 HR0.out x3_1 p187 q187
               obtain rfl : ad186 = ad187 := (by injection e187)
               have HR187_0 := am hi187_0
               have HC187_0 := am hl187_0
               clear hi187_0 hl187_0
               have HR187_3 := am hi187_3
               have HC187_3 := am hl187_3
               clear hi187_3 hl187_3
               replace p187 := eq_true p187
               replace q187 := eq_true q187
               have ea_ := Option.some.inj (hx186_0.symm.trans hx187_0)
               injection ea_ with ea_ en_ ec_
               subst ea_
               subst ec_
               clear en_
               have ea_ := Option.some.inj (hx186_3.symm.trans hx187_3)
               injection ea_ with ea_ en_ ec_
               subst ea_
               subst ec_
               clear en_
               have p188 : 0 ≤ (x4_3 : Int) := oT asm
               have q188 : x4_3 < (((rd_T37 l0 x3_1).f0).length : Int) := oT asm
               obtain ⟨ad188, A188_5, c188_5, e188, hx188_0, hx188_1, hx188_2, hx188_3, hx188_4, hx188_5, hx188_6, hx188_7, hl188_5, hi188_5⟩ := at_T55 HR187_0.out x4_3 p188 q188
               cases e188
               have HR188_5 := am hi188_5
               have HC188_5 := am hl188_5
               clear hi188_5 hl188_5
               replace p188 := eq_true p188
               replace q188 := eq_true q188
               go_wp2
               go_roundg k3
               case measure => have := HK1.out; have := HJ3.out; have := HK3.out; omega
               case rel => exact ⟨(wrap64 (x4_3 + 1)), bx, H', ⟨by have := HK1.out; have := HJ3.out; have := HK3.out; omega⟩, dn⟩
             ·rw [if_neg c11] at H
              exact absurd H (by simp)
            ·rw [if_neg c10] at H
             have c10b0 : decide (x4_3 < (((rd_T37 l0 x3_1).f0).length : Int)) = false := dF c10
             clear c10
             have H' := am H
             clear H
             have p186 : 0 ≤ (x3_1 : Int) := oT asm
             have q186 : x3_1 < (l0.length : Int) := oT asm
             obtain ⟨ad186, A186_0, c186_0, A186_3, c186_3, e186, hx186_0, hx186_1, hx186_2, hx186_3, hl186_0, hi186_0, hl186_3, hi186_3⟩ := at_T37 HR0.out x3_1 p186 q186
             cases e186
             have HR186_0 := am hi186_0
             have HC186_0 := am hl186_0
             clear hi186_0 hl186_0
             have HR186_3 := am hi186_3
             have HC186_3 := am hl186_3
             clear hi186_3 hl186_3
             replace p186 := eq_true p186
             replace q186 := eq_true q186
             go_wp2
             go_roundg k3
             case measure => have := HK1.out; have := HJ3.out; have := HK3.out; omega
             case rel => exact ⟨(wrap64 (x3_1 + 1)), bx, H', ⟨by have := HK1.out; have := HJ3.out; have := HK3.out; omega⟩, dn⟩
           ·rw [if_neg c9] at H
            exact absurd H (by simp)
          ·rw [if_neg c8] at H
           exact absurd H (by simp)
    ·rw [if_neg c3] at H
     have c3b0 : decide (x3_1 < (l0.length : Int)) = false := dF c3
     clear c3
     obtain rfl := Option.some.inj H
     go_wp2
     go_ret
     exact ⟨sd, dn⟩
end Go.Proofs.YtbefbhghmommhaaGreatDoor.MWo
set_option linter.unusedVariables false
set_option linter.unusedSimpArgs false
set_option maxRecDepth 100000
namespace Go.Proofs.YtbefbhghmommhaaGreatDoor.MWo
open Go.RowKit Go.Proofs.YtbefbhghmommhaaGreatDoorW.PrintWords Go.Proofs.YtbefbhghmommhaaGreatDoorW.PrintLast Go.Proofs.YtbefbhghmommhaaGreatDoorW.PrintMore Go.Proofs.YtbefbhghmommhaaGreatDoor.Evl
def smC (x : S37) : Bool := decide (x.f0.length ≤ 20) && (decide (x.f1.f2.length ≤ 20) && x.f0.all fun y => decide (y.f5.length ≤ 20))
def smallB (l : List S37) : Bool := decide (l.length ≤ 20) && l.all smC
theorem rd_c {l : List S37} {i : Nat} (h : i < l.length) : rd_T37 l (i : Int) = l[i] := by simp [rd_T37, h]
theorem rd_m {l : List S55} {i : Nat} (h : i < l.length) : rd_T55 l (i : Int) = l[i] := by simp [rd_T55, h]
theorem small_l1 {l : List S37} (hl : l.length ≤ 20) {i : Nat} (hi : i < l.length) (hn : (l[i]).f0.length ≤ 20) {R : Bool} (hR : Evl (fun k => dl28_small.l0 k l ((i + 1 : Nat) : Int)) R) :
  ∀ (d j : Nat), j + d = (l[i]).f0.length → Evl (fun k => dl28_small.l1 k l (i : Int) (j : Int)) (((l[i]).f0.drop j).all (fun y => decide (y.f5.length ≤ 20)) && R)
 | 0, j, h => by
  refine Evl.succ ?_
  simp only [dl28_small.l1]
  simp only [if_pos (show (0 : Int) ≤ (i : Int) by omega), if_pos (show (i : Int) < (l.length : Int) by omega), rd_c hi, if_neg (show ¬ ((j : Int) < ((l[i]).f0.length : Int)) by omega), List.drop_eq_nil_iff.2 (show (l[i]).f0.length ≤ j by omega), w64n (show i < 2000000 by omega)]
  simpa using hR
 | d + 1, j, h => by
  have hj : j < (l[i]).f0.length := by omega
  refine Evl.succ ?_
  simp only [dl28_small.l1]
  simp only [if_pos (show (0 : Int) ≤ (i : Int) by omega), if_pos (show (i : Int) < (l.length : Int) by omega), rd_c hi, if_pos (show ((j : Int) < ((l[i]).f0.length : Int)) by omega), if_pos (show (0 : Int) ≤ (j : Int) by omega), rd_m hj, w64n (show j < 2000000 by omega)]
  rw [List.drop_eq_getElem_cons hj, List.all_cons]
  by_cases e : (((l[i]).f0[j]).f5).length ≤ 20
  ·simp only [if_neg (show ¬ ((((((l[i]).f0[j]).f5).length : Nat) : Int) > 20) by omega)]
   rw [show decide ((((l[i]).f0[j]).f5).length ≤ 20) = true from dT e, Bool.true_and]
   exact small_l1 hl hi hn hR d (j + 1) (by omega)
  ·simp only [if_pos (show ((((((l[i]).f0[j]).f5).length : Nat) : Int) > 20) by omega)]
   rw [show decide ((((l[i]).f0[j]).f5).length ≤ 20) = false from dF e]
   exact Evl.now fun _ => rfl
theorem small_l0 {l : List S37} (hl : l.length ≤ 20) : ∀ (d i : Nat), i + d = l.length → Evl (fun k => dl28_small.l0 k l (i : Int)) ((l.drop i).all smC)
 | 0, i, h => by
  refine Evl.succ ?_
  simp only [dl28_small.l0]
  simp only [if_neg (show ¬ ((i : Int) < (l.length : Int)) by omega), List.drop_eq_nil_iff.2 (show l.length ≤ i by omega)]
  exact Evl.now fun _ => rfl
 | d + 1, i, h => by
  have hi : i < l.length := by omega
  refine Evl.succ ?_
  simp only [dl28_small.l0]
  simp only [if_pos (show (i : Int) < (l.length : Int) by omega), if_pos (show (0 : Int) ≤ (i : Int) by omega), rd_c hi]
  rw [List.drop_eq_getElem_cons hi, List.all_cons]
  have ih := small_l0 hl d (i + 1) (by omega)
  unfold smC
  by_cases e : (l[i]).f0.length ≤ 20
  ·simp only [if_neg (show ¬ ((((l[i]).f0.length : Nat) : Int) > 20) by omega)]
   rw [show decide ((l[i]).f0.length ≤ 20) = true from dT e, Bool.true_and]
   refine Evl.succ ?_
   simp only [dl28_small.j1]
   by_cases e2 : (l[i]).f1.f2.length ≤ 20
   ·simp only [show decide (((((l[i]).f1.f2).length : Nat) : Int) > 20) = false from dF (by omega)]
    rw [show decide ((l[i]).f1.f2.length ≤ 20) = true from dT e2, Bool.true_and]
    have := small_l1 hl hi e (R := (l.drop (i + 1)).all smC) ih (l[i]).f0.length 0 (by omega)
    exact this
   ·simp only [show decide (((((l[i]).f1.f2).length : Nat) : Int) > 20) = true from dT (by omega)]
    rw [show decide ((l[i]).f1.f2.length ≤ 20) = false from dF e2]
    exact Evl.now fun _ => rfl
  ·simp only [if_pos (show ((((l[i]).f0.length : Nat) : Int) > 20) by omega)]
   rw [show decide ((l[i]).f0.length ≤ 20) = false from dF e]
   exact Evl.succ (Evl.now fun _ => rfl)
theorem small_evl (l : List S37) : Evl (fun k => dl28_small.f k l) (smallB l) := by
 unfold dl28_small.f smallB
 by_cases h : l.length ≤ 20
 ·simp only [if_neg (show ¬ ((l.length : Int) > 20) by omega)]
  rw [show decide (l.length ≤ 20) = true from dT h, Bool.true_and]
  exact small_l0 h l.length 0 (by omega)
 ·simp only [if_pos (show ((l.length : Int) > 20) by omega)]
  rw [show decide (l.length ≤ 20) = false from dF h]
  exact Evl.now fun _ => rfl
end Go.Proofs.YtbefbhghmommhaaGreatDoor.MWo
