/- Texts of this claim, laid together by a program (wip/g/merge5.py): MWox85. -/
import Derived.Test.YtbefbhghmommhaaGreatDoorZWr4
import Derived.Test.YtbefbhghmommhaaGreatDoorZWr19
import Derived.Test.YtbefbhghmommhaaGreatDoorZWr22
import Derived.Test.YtbefbhghmommhaaGreatDoorZWr16
namespace Go.Proofs.YtbefbhghmommhaaGreatDoor.MWo
open Go.RowKit Go.Proofs.YtbefbhghmommhaaGreatDoorW.PrintWords Go.Proofs.YtbefbhghmommhaaGreatDoorW.PrintLast Go.Proofs.YtbefbhghmommhaaGreatDoorW.PrintMore
attribute [local go_sem] mp_u32s mp_u32m mp_u8s mp_u8m max2_int min2_int max_two min_two max_three min_three max_four min_four
set_option linter.unusedVariables false
set_option linter.unusedSimpArgs false
def dr26_Within.j0 : Nat → List Int → List (S68) → List (S71) → Int → Int → Int → Int → Int → Int → Int → Int → Int → Int → Int → List (S55) → Bool → Int → List Int → Option (Bool)
 | 0, _, _, _, _, _, _, _, _, _, _, _, _, _, _, _, _, _, _ => none
 | k + 1, x5, x279000, x279001, x279002, x279003, x279004, x279005, x279006, x279007, x279008, x279009, x279010, x279011, x279012, x280000, x280001, x280002, x280003 => if (x5.length : Int) = 0 then (some true) else ((dr10_Spread.f k x5).bind fun bt289 => ((dr26_Agree.f x280000 x280001 x280002 x280003).bind fun t291 => (if t291 = true then (if bt289.2 = true then ((dr5_Near.f x279000 x279001 x279002 x279003 x279004 x279005 x279006 x279007 x279008 x279009 x279010 x279011 x279012).bind fun t292 => (some (decide (bt289.1 ≤ t292)))) else (some false)) else (some false))))
def dr26_Within.f (k : Nat) (l0_0 : List (S68)) (l0_1 : List (S71)) (a0_2 : Int) (a0_3 : Int) (a0_4 : Int) (a0_5 : Int) (a0_6 : Int) (a0_7 : Int) (a0_8 : Int) (a0_9 : Int) (a0_10 : Int) (a0_11 : Int) (a0_12 : Int) (l1_0 : List (S55)) (a1_1 : Bool) (a1_2 : Int) (l1_3 : List Int) : Option (Bool) := (dr26_synced.f k l1_0 a1_1 a1_2 l1_3).bind fun t280 => ((dr26_starts.f k t280).bind fun t283 => (if a1_1 = true then (if t283.length < 17592186044416 then (dr26_Within.j0 k (t283 ++ [a1_2]) l0_0 l0_1 a0_2 a0_3 a0_4 a0_5 a0_6 a0_7 a0_8 a0_9 a0_10 a0_11 a0_12 l1_0 a1_1 a1_2 l1_3) else (none)) else (dr26_Within.j0 k t283 l0_0 l0_1 a0_2 a0_3 a0_4 a0_5 a0_6 a0_7 a0_8 a0_9 a0_10 a0_11 a0_12 l1_0 a1_1 a1_2 l1_3)))
set_option maxHeartbeats 8000000 in
set_option maxRecDepth 100000 in
theorem dr26_Within.calls (k : Nat) (A0_0 : Option Addr) (c0_0 : Nat) (l0_0 : List (S68)) (A0_1 : Option Addr) (c0_1 : Nat) (l0_1 : List (S71)) (a0_2 : Int) (a0_3 : Int) (a0_4 : Int) (a0_5 : Int) (a0_6 : Int) (a0_7 : Int) (a0_8 : Int) (a0_9 : Int) (a0_10 : Int) (a0_11 : Int) (a0_12 : Int) (A1_0 : Option Addr) (c1_0 : Nat) (l1_0 : List (S55)) (a1_1 : Bool) (a1_2 : Int) (A1_3 : Option Addr) (c1_3 : Nat) (l1_3 : List Int) (r : Bool) (w : World) (hr0_0 : Kd.C k68 w A0_0 l0_0.length l0_0) (hc0_0 : l0_0.length ≤ c0_0) (hr0_1 : Kd.C k71 w A0_1 l0_1.length l0_1) (hc0_1 : l0_1.length ≤ c0_1) (hr1_0 : Kd.C k55 w A1_0 l1_0.length l1_0) (hc1_0 : l1_0.length ≤ c1_0) (hr1_3 : Kd.C (Kd.int .i64) w A1_3 l1_3.length l1_3) (hc1_3 : l1_3.length ≤ c1_3) (h : dr26_Within.f k l0_0 l0_1 a0_2 a0_3 a0_4 a0_5 a0_6 a0_7 a0_8 a0_9 a0_10 a0_11 a0_12 l1_0 a1_1 a1_2 l1_3 = some r) :
  Calls Tryz.prog 12 #[.agg #[.slice A0_0 l0_0.length c0_0, .slice A0_1 l0_1.length c0_1, .int .i64 a0_2, .int .i64 a0_3, .int .i64 a0_4, .int .i64 a0_5, .int .i64 a0_6, .int .i64 a0_7, .int .i64 a0_8, .int .i64 a0_9, .int .i64 a0_10, .int .i64 a0_11, .int .i64 a0_12], .agg #[.slice A1_0 l1_0.length c1_0, .bool a1_1, .int .i64 a1_2, .slice A1_3 l1_3.length c1_3]] w fun e w' => e = .returned (.bool r) ∧ Below w.heap.size w w' := by
 have hu25 := Tryz.underlying25
 have hu37 := Tryz.underlying37
 have HR0_0 := am hr0_0
 have HC0_0 := am hc0_0
 clear hr0_0 hc0_0
 have HR0_1 := am hr0_1
 have HC0_1 := am hc0_1
 clear hr0_1 hc0_1
 have HR1_0 := am hr1_0
 have HC1_0 := am hc1_0
 clear hr1_0 hc1_0
 have HR1_3 := am hr1_3
 have HC1_3 := am hc1_3
 clear hr1_3 hc1_3
 have HB := am (Below.refl w.heap.size w)
 have H : ((dr26_synced.f k l1_0 a1_1 a1_2 l1_3).bind fun t280 => ((dr26_starts.f k t280).bind fun t283 => (if a1_1 = true then (if t283.length < 17592186044416 then (dr26_Within.j0 k (t283 ++ [a1_2]) l0_0 l0_1 a0_2 a0_3 a0_4 a0_5 a0_6 a0_7 a0_8 a0_9 a0_10 a0_11 a0_12 l1_0 a1_1 a1_2 l1_3) else (none)) else (dr26_Within.j0 k t283 l0_0 l0_1 a0_2 a0_3 a0_4 a0_5 a0_6 a0_7 a0_8 a0_9 a0_10 a0_11 a0_12 l1_0 a1_1 a1_2 l1_3)))) = some r := h
 clear h
 replace H := bS H
 obtain ⟨t280, A30, H⟩ := H
 replace H : ((dr26_starts.f k t280).bind fun t283 => (if a1_1 = true then (if t283.length < 17592186044416 then (dr26_Within.j0 k (t283 ++ [a1_2]) l0_0 l0_1 a0_2 a0_3 a0_4 a0_5 a0_6 a0_7 a0_8 a0_9 a0_10 a0_11 a0_12 l1_0 a1_1 a1_2 l1_3) else (none)) else (dr26_Within.j0 k t283 l0_0 l0_1 a0_2 a0_3 a0_4 a0_5 a0_6 a0_7 a0_8 a0_9 a0_10 a0_11 a0_12 l1_0 a1_1 a1_2 l1_3))) = some r := H
 have A3 := am A30
 clear A30
 replace H := bS H
 obtain ⟨t283, A40, H⟩ := H
 replace H : (if a1_1 = true then (if t283.length < 17592186044416 then (dr26_Within.j0 k (t283 ++ [a1_2]) l0_0 l0_1 a0_2 a0_3 a0_4 a0_5 a0_6 a0_7 a0_8 a0_9 a0_10 a0_11 a0_12 l1_0 a1_1 a1_2 l1_3) else (none)) else (dr26_Within.j0 k t283 l0_0 l0_1 a0_2 a0_3 a0_4 a0_5 a0_6 a0_7 a0_8 a0_9 a0_10 a0_11 a0_12 l1_0 a1_1 a1_2 l1_3)) = some r := H
 have A4 := am A40
 clear A40
 have HC5 := am H
 clear H
 go_enter Tryz.func12, Tryz.ntmps12
 go_upto_if 13 with (first | ((with_reducible refine gate_dst (N := 2) rfl ?_); refine bxe 2 #[.slice A0_0 l0_0.length c0_0, .slice A0_1 l0_1.length c0_1, .int .i64 a0_2, .int .i64 a0_3, .int .i64 a0_4, .int .i64 a0_5, .int .i64 a0_6, .int .i64 a0_7, .int .i64 a0_8, .int .i64 a0_9, .int .i64 a0_10, .int .i64 a0_11, .int .i64 a0_12] 25 ?_; intro gb278 hg w6 hbox hb; have n0_ := am (below_step bl0 hb); have n1_ := am (hbox); have n2_ := am (gw0 hg); have n3_ := am (gw0 hg); clear HB; have HB := n0_; have BK278 := n1_; have GW278 := n2_; have GE278 := n3_; clear n0_ n1_ n2_ n3_; clear hb hbox hg) | ((with_reducible refine gate_dst (N := 3) rfl ?_); refine bxe 3 #[.slice A1_0 l1_0.length c1_0, .bool a1_1, .int .i64 a1_2, .slice A1_3 l1_3.length c1_3] 37 ?_; intro gb279 hg w7 hbox hb; have n0_ := am (blk_below (bk BK278) hb); have n1_ := am (below_step (bl1 GE278) hb); have n2_ := am (hbox); have n3_ := am (gw1 hg GE278); have n4_ := am (gw1 hg GE278); have n5_ := am (nl hg BK278); have n6_ := am (nr hg BK278); clear BK278; clear HB; have BK278 := n0_; have HB := n1_; have BK279 := n2_; have GW279 := n3_; have GE279 := n4_; have NB278_279 := n5_; have NB279_278 := n6_; clear n0_ n1_ n2_ n3_ n4_ n5_ n6_; clear hb hbox hg; have hnb8 := NB279_278.out; have hnc8 := NB278_279.out; obtain ⟨hcz9_0, hcz9_1, hcz9_2, hcz9_3⟩ := cellsK4 BK279.out; obtain ⟨hfz9_0, hfz9_1, hfz9_2, hfz9_3⟩ := frozK4 BK279.out) | ((with_reducible refine gate_callee (f := 28) rfl ?_); refine goesL_ (some 9) rfl rfl Tryz.func28 (by kernel_rfl) rfl #[.agg #[.slice A1_0 l1_0.length c1_0, .bool a1_1, .int .i64 a1_2, .slice A1_3 l1_3.length c1_3]] rfl lm ?_; (with_reducible refine (dr26_synced.calls k (fun k_ => k_ < w.heap.size) _ _ l1_0 a1_1 a1_2 _ _ l1_3 t280 _ ?side1 ?side2 ?side3 A3.out).mono ?_); (case side1 => exact Kd.V_mk HC1_0.out (Kd.F_below (Kd.C_F k55_heap HR1_0.out) (bl2 GE278 GE279))); (case side2 => exact kc HR1_3); (case side3 => exact HC1_3.out); rintro e w10 ⟨v281, rfl, ho0, hb⟩; refine ⟨_, rfl, ?_⟩; have n0_ := am (Kd.N_lower (Kd.N_mono (ok' := fun k_ => k_ ≠ gb278 ∧ k_ ≠ gb279) ho0 (fun k_ hk_ => ⟨Or.elim hk_ (fun hs_ => fun e_ => Nat.not_le.2 hs_ (by rw [e_]; exact GW278.out)) (fun hn_ => (Kd.freshB (g := gb278) (o := .cells #[.slice A0_0 l0_0.length c0_0, .slice A0_1 l0_1.length c0_1, .int .i64 a0_2, .int .i64 a0_3, .int .i64 a0_4, .int .i64 a0_5, .int .i64 a0_6, .int .i64 a0_7, .int .i64 a0_8, .int .i64 a0_9, .int .i64 a0_10, .int .i64 a0_11, .int .i64 a0_12] 25 (0, 0)) (bk BK278) k_ hn_)), Or.elim hk_ (fun hs_ => fun e_ => Nat.not_le.2 hs_ (by rw [e_]; exact GW279.out)) (fun hn_ => (Kd.freshB (g := gb279) (o := .cells #[.slice A1_0 l1_0.length c1_0, .bool a1_1, .int .i64 a1_2, .slice A1_3 l1_3.length c1_3] 37 (0, 0)) (bk BK279) k_ hn_))⟩)) (below_size (bl2 GE278 GE279))); have n1_ := am (blk_below (bk BK278) hb); have n2_ := am (blk_below (bk BK279) hb); have n3_ := am (below_step (bl2 GE278 GE279) hb); clear BK278; clear BK279; clear HB; have HO282 := n0_; have BK278 := n1_; have BK279 := n2_; have HB := n3_; clear n0_ n1_ n2_ n3_; (try clear hb); (try clear hb2); (try clear hk); (try clear hi); (try clear ho0); obtain ⟨Ao11, co11, eo11⟩ := Kd.N_slice HO282.out; subst eo11) | ((with_reducible refine gate_callee (f := 34) rfl ?_); refine goesL_ (some 10) rfl rfl Tryz.func34 (by kernel_rfl) rfl #[.slice Ao11 t280.length co11] rfl lm ?_; (with_reducible refine (dr26_starts.calls k _ _ t280 t283 _ ?side1 ?side2 A4.out).mono ?_); (case side1 => exact kg (Kd.N_reads' HO282.out).2.2); (case side2 => exact (Kd.N_reads' HO282.out).2.1); rintro e w12 ⟨v284, rfl, ho0, hb⟩; refine ⟨_, rfl, ?_⟩; have n0_ := am (Kd.N_elder' (kn HO282.out) (Kd.R_base ho0) hb); have n1_ := am (Kd.R_lower ho0 (below_size (bl2 GE278 GE279))); have n2_ := am (blk_below (bk BK278) hb); have n3_ := am (blk_below (bk BK279) hb); have n4_ := am (below_step (bl2 GE278 GE279) hb); clear HO282; clear BK278; clear BK279; clear HB; have HO282 := n0_; have HO285 := n1_; have BK278 := n2_; have BK279 := n3_; have HB := n4_; clear n0_ n1_ n2_ n3_ n4_; (try clear hb); (try clear hb2); (try clear hk); (try clear hi); (try clear ho0); obtain ⟨hcz13_0, hcz13_1, hcz13_2, hcz13_3⟩ := cellsK4 BK279.out; obtain ⟨hfz13_0, hfz13_1, hfz13_2, hfz13_3⟩ := frozK4 BK279.out))
 (try simp only [Act.put, sAa, sBb, sCc])
 go_cut [5] (fun v5 wc => ∃ (kq : Nat) (x5_4 : List Int), Aside0 (dr26_Within.j0 kq x5_4 l0_0 l0_1 a0_2 a0_3 a0_4 a0_5 a0_6 a0_7 a0_8 a0_9 a0_10 a0_11 a0_12 l1_0 a1_1 a1_2 l1_3 = some r) ∧ Aside0 (kq ≤ k) ∧ Aside0 (Kd.R (Kd.int .i64) 2 wc w.heap.size (fun _ => True) v5 x5_4) ∧ Aside0 (wc.heap[gb278]? = some (.cells #[(.slice A0_0 l0_0.length c0_0), (.slice A0_1 l0_1.length c0_1), .int .i64 a0_2, .int .i64 a0_3, .int .i64 a0_4, .int .i64 a0_5, .int .i64 a0_6, .int .i64 a0_7, .int .i64 a0_8, .int .i64 a0_9, .int .i64 a0_10, .int .i64 a0_11, .int .i64 a0_12] 25 (0, 0))) ∧ Aside0 (wc.heap[gb279]? = some (.cells #[(.slice A1_0 l1_0.length c1_0), .bool a1_1, .int .i64 a1_2, (.slice A1_3 l1_3.length c1_3)] 37 (0, 0))) ∧ Aside0 (Below w.heap.size w wc))
 case first =>
  have H := HC5.out
  clear HC5
  by_cases c14 : a1_1 = true
  ·subst c14
   have H1 : (if t283.length < 17592186044416 then (dr26_Within.j0 k (t283 ++ [a1_2]) l0_0 l0_1 a0_2 a0_3 a0_4 a0_5 a0_6 a0_7 a0_8 a0_9 a0_10 a0_11 a0_12 l1_0 true a1_2 l1_3) else (none)) = some r := by rw [if_pos rfl] at H; exact H
   clear H
   have H := H1
   clear H1
   by_cases c15 : t283.length < 17592186044416
   ·rw [if_pos c15] at H
    have LMc15 := am c15
    clear c15
    obtain ⟨y286, hy286⟩ : ∃ y_ : List Int, y_ = (t283 ++ [a1_2]) := ⟨_, rfl⟩
    replace H : (dr26_Within.j0 k y286 l0_0 l0_1 a0_2 a0_3 a0_4 a0_5 a0_6 a0_7 a0_8 a0_9 a0_10 a0_11 a0_12 l1_0 true a1_2 l1_3) = some r := by first | (rw [hy286]; with_reducible exact H) | (have H2_ := (Option.bind_some _ _).symm.trans H; rw [hy286]; with_reducible exact H2_) | (have H2_ := (Option.bind_some _ _).symm.trans H; with_reducible exact H2_) | with_reducible exact H | (rw [hy286]; exact H) | exact H
    have Ny286 := am hy286
    clear hy286
    have H' := am H
    clear H
    have hnb16 := NB279_278.out
    have hnc16 := NB278_279.out
    obtain ⟨hcz17_0, hcz17_1, hcz17_2, hcz17_3⟩ := cellsK4 BK279.out
    obtain ⟨hfz17_0, hfz17_1, hfz17_2, hfz17_3⟩ := frozK4 BK279.out
    go_wp2_with (first | ((with_reducible refine gate_builtin (b := .append) (xs := #[.tmp 14, .tmp 18]) rfl ?_); at_builtin; refine Kd.R_append (Kd.int .i64) (w0 := w) w.heap.size rfl (.tmp 14) (.tmp 18) 61 2 (.int .i64 0) 8 rfl Tryz.underlying61 info2 rfl (by decide) (by omega) v284 t283 a1_2 [.int .i64 a1_2] (fun _ => True) (fun _ => False) rfl rfl ?aP (fun _ hk => hk.elim) ?aF ?aO ?aB ?aS ?aL ?_; (case aP => exact rfl); (case aB => exact (bl2 GE278 GE279)); (case aF => exact (fun _ _ => trivial)); (case aO => exact (kr HO285.out)); (case aS => exact (below_size (bl2 GE278 GE279))); (case aL => have := LMc15.out; omega); intro v287 w18 ho hb hg hat; rw [← Ny286.out] at ho; have n0_ := am (blk_grown (bk BK278) hg (Kd.R_ne HO285.out BK278.out (by decide))); have n1_ := am (blk_grown (bk BK279) hg (Kd.R_ne HO285.out BK279.out (by decide))); have n2_ := am (Kd.N_afterv (ok := (fun k_ => k_ ≠ gb278 ∧ k_ ≠ gb279)) (kn HO282.out) hg hat); have n3_ := am (hb); have n4_ := am (ho); clear BK278; clear BK279; clear HO282; clear HB; clear HO285; have BK278 := n0_; have BK279 := n1_; have HO282 := n2_; have HB := n3_; have HO288 := n4_; clear n0_ n1_ n2_ n3_ n4_; clear ho hb hg hat))
    go_meet
    case rel => exact ⟨_, (y286), H', ⟨by first | omega | exact Nat.le_refl _⟩, ⟨kr HO288.out⟩, ⟨bk BK278⟩, ⟨bk BK279⟩, ⟨bl2 GE278 GE279⟩⟩
   ·rw [if_neg c15] at H
    exact absurd H (by simp)
  ·replace c14 := Bool.eq_false_iff.mpr c14
   subst c14
   have H1 : (dr26_Within.j0 k t283 l0_0 l0_1 a0_2 a0_3 a0_4 a0_5 a0_6 a0_7 a0_8 a0_9 a0_10 a0_11 a0_12 l1_0 false a1_2 l1_3) = some r := by rw [if_neg (show ¬ (false = true) by decide)] at H; exact H
   clear H
   have H := H1
   clear H1
   have H' := am H
   clear H
   go_wp2
   go_meet
   case rel => exact ⟨_, (t283), H', ⟨by first | omega | exact Nat.le_refl _⟩, ⟨kr HO285.out⟩, ⟨bk BK278⟩, ⟨bk BK279⟩, ⟨bl2 GE278 GE279⟩⟩
 case rest =>
  clear HC5
  try clear c1
  try clear c2
  try clear p2
  try clear c3
  try clear c8
  try clear c12
  try clear c14
  try clear c15
  try clear c16
  try clear hcz13_0 hcz13_1 hcz13_2 hcz13_3
  try clear hcz17_0 hcz17_1 hcz17_2 hcz17_3
  try clear hcz9_0 hcz9_1 hcz9_2 hcz9_3
  try clear hfz13_0 hfz13_1 hfz13_2 hfz13_3
  try clear hfz17_0 hfz17_1 hfz17_2 hfz17_3
  try clear hfz9_0 hfz9_1 hfz9_2 hfz9_3
  obtain ⟨kq, x5_4, HA, HJ4, HO_5, BK278, BK279, HB⟩ := hcut
  cases kq with
  | zero => exact absurd HA.out (by simp [dr26_Within.j0])
  | succ kj4 =>
   have H := HA.out
   clear HA
   simp only [dr26_Within.j0] at H
   by_cases c19 : (x5_4.length : Int) = 0
   ·rw [if_pos c19] at H
    have c19b0 : ((x5_4.length : Int) == 0) = true := beq_iff_eq.mpr c19
    have c19b1 : ((x5_4.length : Int) != 0) = false := bne_eq_false_iff_eq.mpr c19
    clear c19
    obtain rfl := Option.some.inj H
    obtain ⟨Ao20, co20, eo20⟩ := Kd.R_slice HO_5.out
    subst eo20
    go_wp2
    go_ret
    exact ⟨ew, bl2 GE278 GE279⟩
   ·rw [if_neg c19] at H
    have c19b0 : ((x5_4.length : Int) == 0) = false := beq_eq_false_iff_ne.mpr c19
    have c19b1 : ((x5_4.length : Int) != 0) = true := bne_iff_ne.mpr c19
    have c19b2 : ¬ (x5_4 = []) := fun h_ => c19 (by rw [h_]; rfl)
    replace H := bS H
    obtain ⟨⟨t289, t290⟩, A210, H⟩ := H
    replace H : ((dr26_Agree.f l1_0 a1_1 a1_2 l1_3).bind fun t291 => (if t291 = true then (if t290 = true then ((dr5_Near.f l0_0 l0_1 a0_2 a0_3 a0_4 a0_5 a0_6 a0_7 a0_8 a0_9 a0_10 a0_11 a0_12).bind fun t292 => (some (decide (t289 ≤ t292)))) else (some false)) else (some false))) = some r := H
    have A21 := am A210
    clear A210
    replace H := bS H
    obtain ⟨t291, A220, H⟩ := H
    replace H : (if t291 = true then (if t290 = true then ((dr5_Near.f l0_0 l0_1 a0_2 a0_3 a0_4 a0_5 a0_6 a0_7 a0_8 a0_9 a0_10 a0_11 a0_12).bind fun t292 => (some (decide (t289 ≤ t292)))) else (some false)) else (some false)) = some r := H
    have A22 := am A220
    clear A220
    by_cases c23 : t291 = true
    ·subst c23
     have H1 : (if t290 = true then ((dr5_Near.f l0_0 l0_1 a0_2 a0_3 a0_4 a0_5 a0_6 a0_7 a0_8 a0_9 a0_10 a0_11 a0_12).bind fun t292 => (some (decide (t289 ≤ t292)))) else (some false)) = some r := by rw [if_pos rfl] at H; exact H
     clear H
     have H := H1
     clear H1
     by_cases c24 : t290 = true
     ·subst c24
      have H1 : ((dr5_Near.f l0_0 l0_1 a0_2 a0_3 a0_4 a0_5 a0_6 a0_7 a0_8 a0_9 a0_10 a0_11 a0_12).bind fun t292 => (some (decide (t289 ≤ t292)))) = some r := by rw [if_pos rfl] at H; exact H
      clear H
      have H := H1
      clear H1
      replace H := bS H
      obtain ⟨t292, A250, H⟩ := H
      replace H : (some (decide (t289 ≤ t292))) = some r := H
      have A25 := am A250
      clear A250
      obtain rfl := Option.some.inj H
      obtain ⟨Ao26, co26, eo26⟩ := Kd.R_slice HO_5.out
      subst eo26
      go_wp2_with (first | ((with_reducible refine gate_callee (f := 35) rfl ?_); refine goesL_ (some 25) rfl rfl Tryz.func35 (by kernel_rfl) rfl #[.slice Ao26 x5_4.length co26] rfl lm ?_; (with_reducible refine (dr10_Spread.calls kj4 _ _ x5_4 t289 true _ ?side1 ?side2 A21.out).mono ?_); (case side1 => exact kg (Kd.R_reads' HO_5.out).2.2); (case side2 => exact (Kd.R_reads' HO_5.out).2.1); rintro e w27 ⟨rfl, hb⟩; refine ⟨_, rfl, ?_⟩; have n0_ := am (Kd.R_below (kr HO_5.out) hb); have n1_ := am (blk_below (bk BK278) hb); have n2_ := am (blk_below (bk BK279) hb); have n3_ := am (below_step (bl2 GE278 GE279) hb); clear HO_5; clear BK278; clear BK279; clear HB; have HO_5 := n0_; have BK278 := n1_; have BK279 := n2_; have HB := n3_; clear n0_ n1_ n2_ n3_; (try clear hb); (try clear hb2); (try clear hk); (try clear hi); have hnb28 := NB279_278.out; have hnc28 := NB278_279.out; obtain ⟨hcz29_0, hcz29_1, hcz29_2, hcz29_3⟩ := cellsK4 BK279.out; obtain ⟨hfz29_0, hfz29_1, hfz29_2, hfz29_3⟩ := frozK4 BK279.out) | ((with_reducible refine gate_callee (f := 21) rfl ?_); refine goesL_ (some 29) rfl rfl Tryz.func21 (by kernel_rfl) rfl #[.agg #[.slice A1_0 l1_0.length c1_0, .bool a1_1, .int .i64 a1_2, .slice A1_3 l1_3.length c1_3]] rfl lm ?_; (with_reducible refine (dr26_Agree.calls _ _ l1_0 a1_1 a1_2 _ _ l1_3 true _ ?side1 ?side2 ?side3 ?side4 A22.out).mono ?_); (case side1 => exact kc HR1_0); (case side2 => exact HC1_0.out); (case side3 => exact kc HR1_3); (case side4 => exact HC1_3.out); rintro e w30 ⟨rfl, hb⟩; refine ⟨_, rfl, ?_⟩; have n0_ := am (Kd.R_below (kr HO_5.out) hb); have n1_ := am (blk_below (bk BK278) hb); have n2_ := am (blk_below (bk BK279) hb); have n3_ := am (below_step (bl2 GE278 GE279) hb); clear HO_5; clear BK278; clear BK279; clear HB; have HO_5 := n0_; have BK278 := n1_; have BK279 := n2_; have HB := n3_; clear n0_ n1_ n2_ n3_; (try clear hb); (try clear hb2); (try clear hk); (try clear hi); obtain ⟨hcz31_0, hcz31_1, hcz31_2, hcz31_3, hcz31_4, hcz31_5, hcz31_6, hcz31_7, hcz31_8, hcz31_9, hcz31_10, hcz31_11, hcz31_12⟩ := cellsK13 BK278.out; obtain ⟨hfz31_0, hfz31_1, hfz31_2, hfz31_3, hfz31_4, hfz31_5, hfz31_6, hfz31_7, hfz31_8, hfz31_9, hfz31_10, hfz31_11, hfz31_12⟩ := frozK13 BK278.out) | (go_at_call 36; (with_reducible refine (dr5_Near.calls _ _ l0_0 _ _ l0_1 a0_2 a0_3 a0_4 a0_5 a0_6 a0_7 a0_8 a0_9 a0_10 a0_11 a0_12 t292 _ ?side1 ?side2 ?side3 ?side4 A25.out).mono ?_); (case side1 => exact kc HR0_0); (case side2 => exact HC0_0.out); (case side3 => exact kc HR0_1); (case side4 => exact HC0_1.out); rintro e w32 ⟨rfl, hb⟩; have n0_ := am (Kd.R_below (kr HO_5.out) hb); have n1_ := am (blk_below (bk BK278) hb); have n2_ := am (blk_below (bk BK279) hb); have n3_ := am (below_step (bl2 GE278 GE279) hb); clear HO_5; clear BK278; clear BK279; clear HB; have HO_5 := n0_; have BK278 := n1_; have BK279 := n2_; have HB := n3_; clear n0_ n1_ n2_ n3_; (try clear hb); (try clear hb2); (try clear hk); (try clear hi)))
      go_ret
      exact ⟨ew, bl2 GE278 GE279⟩
     ·replace c24 := Bool.eq_false_iff.mpr c24
      subst c24
      have H1 : (some false) = some r := by rw [if_neg (show ¬ (false = true) by decide)] at H; exact H
      clear H
      have H := H1
      clear H1
      obtain rfl := Option.some.inj H
      obtain ⟨Ao33, co33, eo33⟩ := Kd.R_slice HO_5.out
      subst eo33
      go_wp2_with (first | ((with_reducible refine gate_callee (f := 35) rfl ?_); refine goesL_ (some 25) rfl rfl Tryz.func35 (by kernel_rfl) rfl #[.slice Ao33 x5_4.length co33] rfl lm ?_; (with_reducible refine (dr10_Spread.calls kj4 _ _ x5_4 t289 false _ ?side1 ?side2 A21.out).mono ?_); (case side1 => exact kg (Kd.R_reads' HO_5.out).2.2); (case side2 => exact (Kd.R_reads' HO_5.out).2.1); rintro e w34 ⟨rfl, hb⟩; refine ⟨_, rfl, ?_⟩; have n0_ := am (Kd.R_below (kr HO_5.out) hb); have n1_ := am (blk_below (bk BK278) hb); have n2_ := am (blk_below (bk BK279) hb); have n3_ := am (below_step (bl2 GE278 GE279) hb); clear HO_5; clear BK278; clear BK279; clear HB; have HO_5 := n0_; have BK278 := n1_; have BK279 := n2_; have HB := n3_; clear n0_ n1_ n2_ n3_; (try clear hb); (try clear hb2); (try clear hk); (try clear hi); have hnb35 := NB279_278.out; have hnc35 := NB278_279.out; obtain ⟨hcz36_0, hcz36_1, hcz36_2, hcz36_3⟩ := cellsK4 BK279.out; obtain ⟨hfz36_0, hfz36_1, hfz36_2, hfz36_3⟩ := frozK4 BK279.out) | ((with_reducible refine gate_callee (f := 21) rfl ?_); refine goesL_ (some 29) rfl rfl Tryz.func21 (by kernel_rfl) rfl #[.agg #[.slice A1_0 l1_0.length c1_0, .bool a1_1, .int .i64 a1_2, .slice A1_3 l1_3.length c1_3]] rfl lm ?_; (with_reducible refine (dr26_Agree.calls _ _ l1_0 a1_1 a1_2 _ _ l1_3 true _ ?side1 ?side2 ?side3 ?side4 A22.out).mono ?_); (case side1 => exact kc HR1_0); (case side2 => exact HC1_0.out); (case side3 => exact kc HR1_3); (case side4 => exact HC1_3.out); rintro e w37 ⟨rfl, hb⟩; refine ⟨_, rfl, ?_⟩; have n0_ := am (Kd.R_below (kr HO_5.out) hb); have n1_ := am (blk_below (bk BK278) hb); have n2_ := am (blk_below (bk BK279) hb); have n3_ := am (below_step (bl2 GE278 GE279) hb); clear HO_5; clear BK278; clear BK279; clear HB; have HO_5 := n0_; have BK278 := n1_; have BK279 := n2_; have HB := n3_; clear n0_ n1_ n2_ n3_; (try clear hb); (try clear hb2); (try clear hk); (try clear hi)))
      go_ret
      exact ⟨ew, bl2 GE278 GE279⟩
    ·replace c23 := Bool.eq_false_iff.mpr c23
     subst c23
     have H1 : (some false) = some r := by rw [if_neg (show ¬ (false = true) by decide)] at H; exact H
     clear H
     have H := H1
     clear H1
     obtain rfl := Option.some.inj H
     obtain ⟨Ao38, co38, eo38⟩ := Kd.R_slice HO_5.out
     subst eo38
     go_wp2_with (first | ((with_reducible refine gate_callee (f := 35) rfl ?_); refine goesL_ (some 25) rfl rfl Tryz.func35 (by kernel_rfl) rfl #[.slice Ao38 x5_4.length co38] rfl lm ?_; (with_reducible refine (dr10_Spread.calls kj4 _ _ x5_4 t289 t290 _ ?side1 ?side2 A21.out).mono ?_); (case side1 => exact kg (Kd.R_reads' HO_5.out).2.2); (case side2 => exact (Kd.R_reads' HO_5.out).2.1); rintro e w39 ⟨rfl, hb⟩; refine ⟨_, rfl, ?_⟩; have n0_ := am (Kd.R_below (kr HO_5.out) hb); have n1_ := am (blk_below (bk BK278) hb); have n2_ := am (blk_below (bk BK279) hb); have n3_ := am (below_step (bl2 GE278 GE279) hb); clear HO_5; clear BK278; clear BK279; clear HB; have HO_5 := n0_; have BK278 := n1_; have BK279 := n2_; have HB := n3_; clear n0_ n1_ n2_ n3_; (try clear hb); (try clear hb2); (try clear hk); (try clear hi); have hnb40 := NB279_278.out; have hnc40 := NB278_279.out; obtain ⟨hcz41_0, hcz41_1, hcz41_2, hcz41_3⟩ := cellsK4 BK279.out; obtain ⟨hfz41_0, hfz41_1, hfz41_2, hfz41_3⟩ := frozK4 BK279.out) | ((with_reducible refine gate_callee (f := 21) rfl ?_); refine goesL_ (some 29) rfl rfl Tryz.func21 (by kernel_rfl) rfl #[.agg #[.slice A1_0 l1_0.length c1_0, .bool a1_1, .int .i64 a1_2, .slice A1_3 l1_3.length c1_3]] rfl lm ?_; (with_reducible refine (dr26_Agree.calls _ _ l1_0 a1_1 a1_2 _ _ l1_3 false _ ?side1 ?side2 ?side3 ?side4 A22.out).mono ?_); (case side1 => exact kc HR1_0); (case side2 => exact HC1_0.out); (case side3 => exact kc HR1_3); (case side4 => exact HC1_3.out); rintro e w42 ⟨rfl, hb⟩; refine ⟨_, rfl, ?_⟩; have n0_ := am (Kd.R_below (kr HO_5.out) hb); have n1_ := am (blk_below (bk BK278) hb); have n2_ := am (blk_below (bk BK279) hb); have n3_ := am (below_step (bl2 GE278 GE279) hb); clear HO_5; clear BK278; clear BK279; clear HB; have HO_5 := n0_; have BK278 := n1_; have BK279 := n2_; have HB := n3_; clear n0_ n1_ n2_ n3_; (try clear hb); (try clear hb2); (try clear hk); (try clear hi)))
     go_ret
     exact ⟨ew, bl2 GE278 GE279⟩
end Go.Proofs.YtbefbhghmommhaaGreatDoor.MWo
