/- Texts of this claim, laid together by a program (wip/g/merge5.py): MWox52. -/
import Derived.Test.YtbefbhghmommhaaDoorZHz4
import Derived.Test.YtbefbhghmommhaaDoorZHz13
import Derived.Test.YtbefbhghmommhaaDoorZHz14
import Derived.Test.YtbefbhghmommhaaDoorZHz16
import Derived.Test.YtbefbhghmommhaaDoorZHz17
import Derived.Test.YtbefbhghmommhaaDoorZHz19
import Derived.Test.YtbefbhghmommhaaDoorZHz18
namespace Go.Proofs.YtbefbhghmommhaaDoor.MWo
open Go.RowKit Go.Proofs.YtbefbhghmommhaaDoorW.PrintWords Go.Proofs.YtbefbhghmommhaaDoorW.PrintLast Go.Proofs.YtbefbhghmommhaaDoorW.PrintMore
attribute [local go_sem] mp_u32s mp_u32m mp_u8s mp_u8m max2_int min2_int max_two min_two max_three min_three max_four min_four
set_option linter.unusedVariables false
set_option linter.unusedSimpArgs false
def dl6_HopsTells.j0 : Nat → Int → Int → Bool → List (S43) → List (S39) → Int → Int → Int → Int → Int → Int → Int → Int → Int → Int → Int → Option (Bool)
 | 0, _, _, _, _, _, _, _, _, _, _, _, _, _, _, _, _ => none
 | k + 1, x1, x2, x20, x217000, x217001, x217002, x217003, x217004, x217005, x217006, x217007, x217008, x217009, x217010, x217011, x217012 => if x20 = true then ((dl6_alive.f).bind fun t218 => (some t218)) else ((hops_Dist.f k x217000 x217001 x217002 x217003 x217004 x217005 x217006 x217007 x217008 x217009 x217010 x217011 x217012 x1 x2).bind fun t219 => ((dr5_Dist.f k x217000 x217001 x217002 x217003 x217004 x217005 x217006 x217007 x217008 x217009 x217010 x217011 x217012 x1 x2).bind fun t220 => (if t219 = t220 then ((hops_Next.f x217000 x217001 x217002 x217003 x217004 x217005 x217006 x217007 x217008 x217009 x217010 x217011 x217012 x1 x2).bind fun t221 => ((dr5_Next.f k x217000 x217001 x217002 x217003 x217004 x217005 x217006 x217007 x217008 x217009 x217010 x217011 x217012 x1 x2).bind fun t222 => (if t221 = t222 then ((hops_Way.f k x217000 x217001 x217002 x217003 x217004 x217005 x217006 x217007 x217008 x217009 x217010 x217011 x217012 x1 x2).bind fun t223 => ((dr5_Way.f k x217000 x217001 x217002 x217003 x217004 x217005 x217006 x217007 x217008 x217009 x217010 x217011 x217012 x1 x2).bind fun t226 => ((dr1_SameInts.f k t223 t226).bind fun t229 => (if t229 = true then ((hops_Width.f k x217000 x217001 x217002 x217003 x217004 x217005 x217006 x217007 x217008 x217009 x217010 x217011 x217012).bind fun t230 => ((dr5_Width.f k x217000 x217001 x217002 x217003 x217004 x217005 x217006 x217007 x217008 x217009 x217010 x217011 x217012).bind fun t231 => (some (t230 == t231)))) else (some false))))) else (some false)))) else (some false))))
def dl6_HopsTells.f (k : Nat) (l0_0 : List (S43)) (l0_1 : List (S39)) (a0_2 : Int) (a0_3 : Int) (a0_4 : Int) (a0_5 : Int) (a0_6 : Int) (a0_7 : Int) (a0_8 : Int) (a0_9 : Int) (a0_10 : Int) (a0_11 : Int) (a0_12 : Int) (a1 : Int) (a2 : Int) : Option (Bool) := (dl6_alive.f).bind fun t217 => (if t217 = true then (if (l0_0.length : Int) > 20 then (dl6_HopsTells.j0 k a1 a2 true l0_0 l0_1 a0_2 a0_3 a0_4 a0_5 a0_6 a0_7 a0_8 a0_9 a0_10 a0_11 a0_12) else (dl6_HopsTells.j0 k a1 a2 (decide ((l0_1.length : Int) > 30)) l0_0 l0_1 a0_2 a0_3 a0_4 a0_5 a0_6 a0_7 a0_8 a0_9 a0_10 a0_11 a0_12)) else (dl6_HopsTells.j0 k a1 a2 true l0_0 l0_1 a0_2 a0_3 a0_4 a0_5 a0_6 a0_7 a0_8 a0_9 a0_10 a0_11 a0_12))
def dl6_HopsTells.T3 : Bool × List (List Nat × List Nat) := (true, [([], []), ([], []), ([], []), ([0, 1, 2], [0, 1, 2]), ([], []), ([], []), ([], []), ([4, 5, 6, 3], [4, 5, 6]), ([3, 7], [3, 7]), ([8, 7], [8]), ([9], [9]), ([9], [9]), ([9], [9]), ([10, 11, 12, 9, 9], [9, 10, 11, 12]), ([9], [9]), ([9], [9]), ([9], [9]), ([14, 15, 16, 13, 9], [9, 14, 15, 16]), ([13, 17, 9], [9, 13, 17]), ([9, 18], [9, 18]), ([19, 17], [19]), ([20], [20]), ([20], [20]), ([20], [20]), ([21, 22, 23, 20, 20], [20, 21, 22, 23]), ([20], [20]), ([20], [20]), ([20], [20]), ([25, 26, 27, 24, 20], [20, 25, 26, 27]), ([24, 28, 28, 20], [20, 24, 28]), ([20, 29], [20, 29]), ([30, 29], [30]), ([31], [31]), ([32, 31, 31], [31, 32]), ([31], [31]), ([34, 33, 31], [31, 34]), ([33, 35, 31], [31, 33, 35]), ([31, 36], [31, 36]), ([37, 35, 0, 1, 2, 3, 4, 5, 6, 7, 8, 9, 10, 11, 12, 13, 14, 15, 16, 17, 18, 19, 20, 21, 22, 23, 24, 25, 26, 27, 28, 29, 30, 31, 32, 33, 34, 35, 36, 37], [37])])
def dl6_HopsTells.B3 : List Nat := [0, 0, 0, 7, 0, 0, 0, 127, 255, 511, 1023, 1023, 1023, 8191, 1023, 1023, 1023, 131071, 262143, 524287, 1048575, 2097151, 2097151, 2097151, 16777215, 2097151, 2097151, 2097151, 268435455, 536870911, 1073741823, 2147483647, 4294967295, 8589934591, 4294967295, 34359738367, 68719476735, 137438953471, 274877906943]
theorem dl6_HopsTells.tab3 : rtab .any (opsOf Tryd.f3 3) = dl6_HopsTells.T3 := by kernel_rfl
theorem dl6_HopsTells.bits3 : waitsOk dl6_HopsTells.T3.2 dl6_HopsTells.B3 = true := by kernel_rfl
set_option maxHeartbeats 8000000 in
set_option maxRecDepth 100000 in
theorem dl6_HopsTells.calls (k : Nat) (A0_0 : Option Addr) (c0_0 : Nat) (l0_0 : List (S43)) (A0_1 : Option Addr) (c0_1 : Nat) (l0_1 : List (S39)) (a0_2 : Int) (a0_3 : Int) (a0_4 : Int) (a0_5 : Int) (a0_6 : Int) (a0_7 : Int) (a0_8 : Int) (a0_9 : Int) (a0_10 : Int) (a0_11 : Int) (a0_12 : Int) (a1 : Int) (a2 : Int) (r : Bool) (w : World) (hr0_0 : Kd.C k43 w A0_0 l0_0.length l0_0) (hc0_0 : l0_0.length ≤ c0_0) (hr0_1 : Kd.C k39 w A0_1 l0_1.length l0_1) (hc0_1 : l0_1.length ≤ c0_1) (h : dl6_HopsTells.f k l0_0 l0_1 a0_2 a0_3 a0_4 a0_5 a0_6 a0_7 a0_8 a0_9 a0_10 a0_11 a0_12 a1 a2 = some r) (hG : Gv w) :
  Calls Tryd.prog 3 #[.agg #[.slice A0_0 l0_0.length c0_0, .slice A0_1 l0_1.length c0_1, .int .i64 a0_2, .int .i64 a0_3, .int .i64 a0_4, .int .i64 a0_5, .int .i64 a0_6, .int .i64 a0_7, .int .i64 a0_8, .int .i64 a0_9, .int .i64 a0_10, .int .i64 a0_11, .int .i64 a0_12], .int .i64 a1, .int .i64 a2] w fun e w' => e = .returned (.bool r) ∧ Below w.heap.size w w' := by
 have HG := am hG
 clear hG
 have hu25 := Tryd.underlying25
 have HR0_0 := am hr0_0
 have HC0_0 := am hc0_0
 clear hr0_0 hc0_0
 have HR0_1 := am hr0_1
 have HC0_1 := am hc0_1
 clear hr0_1 hc0_1
 have HB := am (Below.refl w.heap.size w)
 have H : ((dl6_alive.f).bind fun t217 => (if t217 = true then (if (l0_0.length : Int) > 20 then (dl6_HopsTells.j0 k a1 a2 true l0_0 l0_1 a0_2 a0_3 a0_4 a0_5 a0_6 a0_7 a0_8 a0_9 a0_10 a0_11 a0_12) else (dl6_HopsTells.j0 k a1 a2 (decide ((l0_1.length : Int) > 30)) l0_0 l0_1 a0_2 a0_3 a0_4 a0_5 a0_6 a0_7 a0_8 a0_9 a0_10 a0_11 a0_12)) else (dl6_HopsTells.j0 k a1 a2 true l0_0 l0_1 a0_2 a0_3 a0_4 a0_5 a0_6 a0_7 a0_8 a0_9 a0_10 a0_11 a0_12))) = some r := h
 clear h
 have HC4 := am H
 clear H
 go_enter Tryd.func3, Tryd.ntmps3
 go_upto_region 1 with (first | ((with_reducible refine gate_dst (N := 3) rfl ?_); (try (refine gate_guard (by rfl) ?_; dsimp only)); refine bxe 3 #[.slice A0_0 l0_0.length c0_0, .slice A0_1 l0_1.length c0_1, .int .i64 a0_2, .int .i64 a0_3, .int .i64 a0_4, .int .i64 a0_5, .int .i64 a0_6, .int .i64 a0_7, .int .i64 a0_8, .int .i64 a0_9, .int .i64 a0_10, .int .i64 a0_11, .int .i64 a0_12] 25 ?_; intro gb216 hg w5 hbox hb; have n0_ := am (below_step bl0 hb); have n1_ := am (hbox); have n2_ := am (gw0 hg); have n3_ := am (gw0 hg); clear HB; have HB := n0_; have BK216 := n1_; have GW216 := n2_; have GE216 := n3_; clear n0_ n1_ n2_ n3_; clear hb hbox hg))
 (try simp only [Act.put, sAa, sBb, sCc])
 go_cut [20] (fun v20 wc => ∃ (kq : Nat) (x20_3 : Bool), v20 = .bool x20_3 ∧ Aside0 (dl6_HopsTells.j0 kq a1 a2 x20_3 l0_0 l0_1 a0_2 a0_3 a0_4 a0_5 a0_6 a0_7 a0_8 a0_9 a0_10 a0_11 a0_12 = some r) ∧ Aside0 (kq ≤ k) ∧ Aside0 (wc.heap[gb216]? = some (.cells #[(.slice A0_0 l0_0.length c0_0), (.slice A0_1 l0_1.length c0_1), .int .i64 a0_2, .int .i64 a0_3, .int .i64 a0_4, .int .i64 a0_5, .int .i64 a0_6, .int .i64 a0_7, .int .i64 a0_8, .int .i64 a0_9, .int .i64 a0_10, .int .i64 a0_11, .int .i64 a0_12] 25 (0, 0))) ∧ Aside0 (Below w.heap.size w wc))
 case first =>
  have H := HC4.out
  clear HC4
  replace H := bS H
  obtain ⟨t217, A60, H⟩ := H
  replace H : (if t217 = true then (if (l0_0.length : Int) > 20 then (dl6_HopsTells.j0 k a1 a2 true l0_0 l0_1 a0_2 a0_3 a0_4 a0_5 a0_6 a0_7 a0_8 a0_9 a0_10 a0_11 a0_12) else (dl6_HopsTells.j0 k a1 a2 (decide ((l0_1.length : Int) > 30)) l0_0 l0_1 a0_2 a0_3 a0_4 a0_5 a0_6 a0_7 a0_8 a0_9 a0_10 a0_11 a0_12)) else (dl6_HopsTells.j0 k a1 a2 true l0_0 l0_1 a0_2 a0_3 a0_4 a0_5 a0_6 a0_7 a0_8 a0_9 a0_10 a0_11 a0_12)) = some r := H
  have A6 := am A60
  clear A60
  by_cases c7 : t217 = true
  ·subst c7
   have H1 : (if (l0_0.length : Int) > 20 then (dl6_HopsTells.j0 k a1 a2 true l0_0 l0_1 a0_2 a0_3 a0_4 a0_5 a0_6 a0_7 a0_8 a0_9 a0_10 a0_11 a0_12) else (dl6_HopsTells.j0 k a1 a2 (decide ((l0_1.length : Int) > 30)) l0_0 l0_1 a0_2 a0_3 a0_4 a0_5 a0_6 a0_7 a0_8 a0_9 a0_10 a0_11 a0_12)) = some r := by rw [if_pos rfl] at H; exact H
   clear H
   have H := H1
   clear H1
   by_cases c8 : (l0_0.length : Int) > 20
   ·rw [if_pos c8] at H
    have c8b0 : decide (20 < (l0_0.length : Int)) = true := dT c8
    have c8b1 : decide (20 < l0_0.length) = true := dT (by omega)
    clear c8
    (first | rw [c8b0] | (simp only [i64_w, i32_w]; rw [c8b0]) | skip)
    have H' := am H
    clear H
    go_wp2_with (first | ((with_reducible refine gate_callee (f := 4) rfl ?_); refine goesL_ (some 7) rfl rfl Tryd.func4 (by kernel_rfl) rfl #[] rfl lm ?_; (with_reducible refine (dl6_alive.calls  true _ A6.out (Gv.below (k := 0) HG.out (bl1 GE216))).mono ?_); rintro e w9 ⟨rfl, hb⟩; refine ⟨_, rfl, ?_⟩; have n0_ := am (blk_below (bk BK216) hb); have n1_ := am (below_step (bl1 GE216) hb); clear BK216; clear HB; have BK216 := n0_; have HB := n1_; clear n0_ n1_; (try clear hb); (try clear hb2); (try clear hk); (try clear hi); obtain ⟨hcz10_0, hcz10_1, hcz10_2, hcz10_3, hcz10_4, hcz10_5, hcz10_6, hcz10_7, hcz10_8, hcz10_9, hcz10_10, hcz10_11, hcz10_12⟩ := cellsK13 BK216.out; obtain ⟨hfz10_0, hfz10_1, hfz10_2, hfz10_3, hfz10_4, hfz10_5, hfz10_6, hfz10_7, hfz10_8, hfz10_9, hfz10_10, hfz10_11, hfz10_12⟩ := frozK13 BK216.out))
    go_meet
    case rel => exact ⟨_, (true), bx, H', ⟨by first | omega | exact Nat.le_refl _⟩, ⟨bk BK216⟩, ⟨bl1 GE216⟩⟩
   ·rw [if_neg c8] at H
    have c8b0 : decide (20 < (l0_0.length : Int)) = false := dF c8
    have c8b1 : decide (20 < l0_0.length) = false := dF (by omega)
    clear c8
    (first | rw [c8b0] | (simp only [i64_w, i32_w]; rw [c8b0]) | skip)
    have H' := am H
    clear H
    go_wp2_with (first | ((with_reducible refine gate_callee (f := 4) rfl ?_); refine goesL_ (some 7) rfl rfl Tryd.func4 (by kernel_rfl) rfl #[] rfl lm ?_; (with_reducible refine (dl6_alive.calls  true _ A6.out (Gv.below (k := 0) HG.out (bl1 GE216))).mono ?_); rintro e w11 ⟨rfl, hb⟩; refine ⟨_, rfl, ?_⟩; have n0_ := am (blk_below (bk BK216) hb); have n1_ := am (below_step (bl1 GE216) hb); clear BK216; clear HB; have BK216 := n0_; have HB := n1_; clear n0_ n1_; (try clear hb); (try clear hb2); (try clear hk); (try clear hi); obtain ⟨hcz12_0, hcz12_1, hcz12_2, hcz12_3, hcz12_4, hcz12_5, hcz12_6, hcz12_7, hcz12_8, hcz12_9, hcz12_10, hcz12_11, hcz12_12⟩ := cellsK13 BK216.out; obtain ⟨hfz12_0, hfz12_1, hfz12_2, hfz12_3, hfz12_4, hfz12_5, hfz12_6, hfz12_7, hfz12_8, hfz12_9, hfz12_10, hfz12_11, hfz12_12⟩ := frozK13 BK216.out))
    go_meet
    case rel => exact ⟨_, (decide ((l0_1.length : Int) > 30)), bx, H', ⟨by first | omega | exact Nat.le_refl _⟩, ⟨bk BK216⟩, ⟨bl1 GE216⟩⟩
  ·replace c7 := Bool.eq_false_iff.mpr c7
   subst c7
   have H1 : (dl6_HopsTells.j0 k a1 a2 true l0_0 l0_1 a0_2 a0_3 a0_4 a0_5 a0_6 a0_7 a0_8 a0_9 a0_10 a0_11 a0_12) = some r := by rw [if_neg (show ¬ (false = true) by decide)] at H; exact H
   clear H
   have H := H1
   clear H1
   have H' := am H
   clear H
   go_wp2_with (first | ((with_reducible refine gate_callee (f := 4) rfl ?_); refine goesL_ (some 7) rfl rfl Tryd.func4 (by kernel_rfl) rfl #[] rfl lm ?_; (with_reducible refine (dl6_alive.calls  false _ A6.out (Gv.below (k := 0) HG.out (bl1 GE216))).mono ?_); rintro e w13 ⟨rfl, hb⟩; refine ⟨_, rfl, ?_⟩; have n0_ := am (blk_below (bk BK216) hb); have n1_ := am (below_step (bl1 GE216) hb); clear BK216; clear HB; have BK216 := n0_; have HB := n1_; clear n0_ n1_; (try clear hb); (try clear hb2); (try clear hk); (try clear hi)))
   go_meet
   case rel => exact ⟨_, (true), bx, H', ⟨by first | omega | exact Nat.le_refl _⟩, ⟨bk BK216⟩, ⟨bl1 GE216⟩⟩
 case rest =>
  clear HC4
  try clear p2
  try clear c3
  try clear c4
  try clear c7
  try clear c8
  try clear c8b0
  try clear c8b1
  try clear hcz10_0 hcz10_1 hcz10_10 hcz10_11 hcz10_12 hcz10_2 hcz10_3 hcz10_4 hcz10_5 hcz10_6 hcz10_7 hcz10_8 hcz10_9
  try clear hcz12_0 hcz12_1 hcz12_10 hcz12_11 hcz12_12 hcz12_2 hcz12_3 hcz12_4 hcz12_5 hcz12_6 hcz12_7 hcz12_8 hcz12_9
  try clear hfz10_0 hfz10_1 hfz10_10 hfz10_11 hfz10_12 hfz10_2 hfz10_3 hfz10_4 hfz10_5 hfz10_6 hfz10_7 hfz10_8 hfz10_9
  try clear hfz12_0 hfz12_1 hfz12_10 hfz12_11 hfz12_12 hfz12_2 hfz12_3 hfz12_4 hfz12_5 hfz12_6 hfz12_7 hfz12_8 hfz12_9
  obtain ⟨kq, x20_3, rfl, HA, HJ3, BK216, HB⟩ := hcut
  cases kq with
  | zero => exact absurd HA.out (by simp [dl6_HopsTells.j0])
  | succ kj3 =>
   have H := HA.out
   clear HA
   simp only [dl6_HopsTells.j0] at H
   by_cases c14 : x20_3 = true
   ·subst c14
    have H1 : ((dl6_alive.f).bind fun t218 => (some t218)) = some r := by rw [if_pos rfl] at H; exact H
    clear H
    have H := H1
    clear H1
    replace H := bS H
    obtain ⟨t218, A150, H⟩ := H
    replace H : (some t218) = some r := H
    have A15 := am A150
    clear A150
    obtain rfl := Option.some.inj H
    go_wp2_with (first | ((with_reducible refine gate_callee (f := 4) rfl ?_); refine goesL_ (some 21) rfl rfl Tryd.func4 (by kernel_rfl) rfl #[] rfl lm ?_; (with_reducible refine (dl6_alive.calls  t218 _ A15.out (Gv.below (k := 0) HG.out (bl1 GE216))).mono ?_); rintro e w16 ⟨rfl, hb⟩; refine ⟨_, rfl, ?_⟩; have n0_ := am (blk_below (bk BK216) hb); have n1_ := am (below_step (bl1 GE216) hb); clear BK216; clear HB; have BK216 := n0_; have HB := n1_; clear n0_ n1_; (try clear hb); (try clear hb2); (try clear hk); (try clear hi)))
    go_ret
    exact ⟨ew, bl1 GE216⟩
   ·replace c14 := Bool.eq_false_iff.mpr c14
    subst c14
    have H1 : ((hops_Dist.f kj3 l0_0 l0_1 a0_2 a0_3 a0_4 a0_5 a0_6 a0_7 a0_8 a0_9 a0_10 a0_11 a0_12 a1 a2).bind fun t219 => ((dr5_Dist.f kj3 l0_0 l0_1 a0_2 a0_3 a0_4 a0_5 a0_6 a0_7 a0_8 a0_9 a0_10 a0_11 a0_12 a1 a2).bind fun t220 => (if t219 = t220 then ((hops_Next.f l0_0 l0_1 a0_2 a0_3 a0_4 a0_5 a0_6 a0_7 a0_8 a0_9 a0_10 a0_11 a0_12 a1 a2).bind fun t221 => ((dr5_Next.f kj3 l0_0 l0_1 a0_2 a0_3 a0_4 a0_5 a0_6 a0_7 a0_8 a0_9 a0_10 a0_11 a0_12 a1 a2).bind fun t222 => (if t221 = t222 then ((hops_Way.f kj3 l0_0 l0_1 a0_2 a0_3 a0_4 a0_5 a0_6 a0_7 a0_8 a0_9 a0_10 a0_11 a0_12 a1 a2).bind fun t223 => ((dr5_Way.f kj3 l0_0 l0_1 a0_2 a0_3 a0_4 a0_5 a0_6 a0_7 a0_8 a0_9 a0_10 a0_11 a0_12 a1 a2).bind fun t226 => ((dr1_SameInts.f kj3 t223 t226).bind fun t229 => (if t229 = true then ((hops_Width.f kj3 l0_0 l0_1 a0_2 a0_3 a0_4 a0_5 a0_6 a0_7 a0_8 a0_9 a0_10 a0_11 a0_12).bind fun t230 => ((dr5_Width.f kj3 l0_0 l0_1 a0_2 a0_3 a0_4 a0_5 a0_6 a0_7 a0_8 a0_9 a0_10 a0_11 a0_12).bind fun t231 => (some (t230 == t231)))) else (some false))))) else (some false)))) else (some false)))) = some r := by rw [if_neg (show ¬ (false = true) by decide)] at H; exact H
    clear H
    have H := H1
    clear H1
    replace H := bS H
    obtain ⟨t219, A170, H⟩ := H
    replace H : ((dr5_Dist.f kj3 l0_0 l0_1 a0_2 a0_3 a0_4 a0_5 a0_6 a0_7 a0_8 a0_9 a0_10 a0_11 a0_12 a1 a2).bind fun t220 => (if t219 = t220 then ((hops_Next.f l0_0 l0_1 a0_2 a0_3 a0_4 a0_5 a0_6 a0_7 a0_8 a0_9 a0_10 a0_11 a0_12 a1 a2).bind fun t221 => ((dr5_Next.f kj3 l0_0 l0_1 a0_2 a0_3 a0_4 a0_5 a0_6 a0_7 a0_8 a0_9 a0_10 a0_11 a0_12 a1 a2).bind fun t222 => (if t221 = t222 then ((hops_Way.f kj3 l0_0 l0_1 a0_2 a0_3 a0_4 a0_5 a0_6 a0_7 a0_8 a0_9 a0_10 a0_11 a0_12 a1 a2).bind fun t223 => ((dr5_Way.f kj3 l0_0 l0_1 a0_2 a0_3 a0_4 a0_5 a0_6 a0_7 a0_8 a0_9 a0_10 a0_11 a0_12 a1 a2).bind fun t226 => ((dr1_SameInts.f kj3 t223 t226).bind fun t229 => (if t229 = true then ((hops_Width.f kj3 l0_0 l0_1 a0_2 a0_3 a0_4 a0_5 a0_6 a0_7 a0_8 a0_9 a0_10 a0_11 a0_12).bind fun t230 => ((dr5_Width.f kj3 l0_0 l0_1 a0_2 a0_3 a0_4 a0_5 a0_6 a0_7 a0_8 a0_9 a0_10 a0_11 a0_12).bind fun t231 => (some (t230 == t231)))) else (some false))))) else (some false)))) else (some false))) = some r := H
    have A17 := am A170
    clear A170
    replace H := bS H
    obtain ⟨t220, A180, H⟩ := H
    replace H : (if t219 = t220 then ((hops_Next.f l0_0 l0_1 a0_2 a0_3 a0_4 a0_5 a0_6 a0_7 a0_8 a0_9 a0_10 a0_11 a0_12 a1 a2).bind fun t221 => ((dr5_Next.f kj3 l0_0 l0_1 a0_2 a0_3 a0_4 a0_5 a0_6 a0_7 a0_8 a0_9 a0_10 a0_11 a0_12 a1 a2).bind fun t222 => (if t221 = t222 then ((hops_Way.f kj3 l0_0 l0_1 a0_2 a0_3 a0_4 a0_5 a0_6 a0_7 a0_8 a0_9 a0_10 a0_11 a0_12 a1 a2).bind fun t223 => ((dr5_Way.f kj3 l0_0 l0_1 a0_2 a0_3 a0_4 a0_5 a0_6 a0_7 a0_8 a0_9 a0_10 a0_11 a0_12 a1 a2).bind fun t226 => ((dr1_SameInts.f kj3 t223 t226).bind fun t229 => (if t229 = true then ((hops_Width.f kj3 l0_0 l0_1 a0_2 a0_3 a0_4 a0_5 a0_6 a0_7 a0_8 a0_9 a0_10 a0_11 a0_12).bind fun t230 => ((dr5_Width.f kj3 l0_0 l0_1 a0_2 a0_3 a0_4 a0_5 a0_6 a0_7 a0_8 a0_9 a0_10 a0_11 a0_12).bind fun t231 => (some (t230 == t231)))) else (some false))))) else (some false)))) else (some false)) = some r := H
    have A18 := am A180
    clear A180
    by_cases c19 : t219 = t220
    ·rw [if_pos c19] at H
     have c19b0 : (t219 == t220) = true := beq_iff_eq.mpr c19
     have c19b1 : (t219 != t220) = false := bne_eq_false_iff_eq.mpr c19
     clear c19
     replace H := bS H
     obtain ⟨t221, A200, H⟩ := H
     replace H : ((dr5_Next.f kj3 l0_0 l0_1 a0_2 a0_3 a0_4 a0_5 a0_6 a0_7 a0_8 a0_9 a0_10 a0_11 a0_12 a1 a2).bind fun t222 => (if t221 = t222 then ((hops_Way.f kj3 l0_0 l0_1 a0_2 a0_3 a0_4 a0_5 a0_6 a0_7 a0_8 a0_9 a0_10 a0_11 a0_12 a1 a2).bind fun t223 => ((dr5_Way.f kj3 l0_0 l0_1 a0_2 a0_3 a0_4 a0_5 a0_6 a0_7 a0_8 a0_9 a0_10 a0_11 a0_12 a1 a2).bind fun t226 => ((dr1_SameInts.f kj3 t223 t226).bind fun t229 => (if t229 = true then ((hops_Width.f kj3 l0_0 l0_1 a0_2 a0_3 a0_4 a0_5 a0_6 a0_7 a0_8 a0_9 a0_10 a0_11 a0_12).bind fun t230 => ((dr5_Width.f kj3 l0_0 l0_1 a0_2 a0_3 a0_4 a0_5 a0_6 a0_7 a0_8 a0_9 a0_10 a0_11 a0_12).bind fun t231 => (some (t230 == t231)))) else (some false))))) else (some false))) = some r := H
     have A20 := am A200
     clear A200
     replace H := bS H
     obtain ⟨t222, A210, H⟩ := H
     replace H : (if t221 = t222 then ((hops_Way.f kj3 l0_0 l0_1 a0_2 a0_3 a0_4 a0_5 a0_6 a0_7 a0_8 a0_9 a0_10 a0_11 a0_12 a1 a2).bind fun t223 => ((dr5_Way.f kj3 l0_0 l0_1 a0_2 a0_3 a0_4 a0_5 a0_6 a0_7 a0_8 a0_9 a0_10 a0_11 a0_12 a1 a2).bind fun t226 => ((dr1_SameInts.f kj3 t223 t226).bind fun t229 => (if t229 = true then ((hops_Width.f kj3 l0_0 l0_1 a0_2 a0_3 a0_4 a0_5 a0_6 a0_7 a0_8 a0_9 a0_10 a0_11 a0_12).bind fun t230 => ((dr5_Width.f kj3 l0_0 l0_1 a0_2 a0_3 a0_4 a0_5 a0_6 a0_7 a0_8 a0_9 a0_10 a0_11 a0_12).bind fun t231 => (some (t230 == t231)))) else (some false))))) else (some false)) = some r := H
     have A21 := am A210
     clear A210
     by_cases c22 : t221 = t222
     ·rw [if_pos c22] at H
      have c22b0 : (t221 == t222) = true := beq_iff_eq.mpr c22
      have c22b1 : (t221 != t222) = false := bne_eq_false_iff_eq.mpr c22
      clear c22
      replace H := bS H
      obtain ⟨t223, A230, H⟩ := H
      replace H : ((dr5_Way.f kj3 l0_0 l0_1 a0_2 a0_3 a0_4 a0_5 a0_6 a0_7 a0_8 a0_9 a0_10 a0_11 a0_12 a1 a2).bind fun t226 => ((dr1_SameInts.f kj3 t223 t226).bind fun t229 => (if t229 = true then ((hops_Width.f kj3 l0_0 l0_1 a0_2 a0_3 a0_4 a0_5 a0_6 a0_7 a0_8 a0_9 a0_10 a0_11 a0_12).bind fun t230 => ((dr5_Width.f kj3 l0_0 l0_1 a0_2 a0_3 a0_4 a0_5 a0_6 a0_7 a0_8 a0_9 a0_10 a0_11 a0_12).bind fun t231 => (some (t230 == t231)))) else (some false)))) = some r := H
      have A23 := am A230
      clear A230
      replace H := bS H
      obtain ⟨t226, A240, H⟩ := H
      replace H : ((dr1_SameInts.f kj3 t223 t226).bind fun t229 => (if t229 = true then ((hops_Width.f kj3 l0_0 l0_1 a0_2 a0_3 a0_4 a0_5 a0_6 a0_7 a0_8 a0_9 a0_10 a0_11 a0_12).bind fun t230 => ((dr5_Width.f kj3 l0_0 l0_1 a0_2 a0_3 a0_4 a0_5 a0_6 a0_7 a0_8 a0_9 a0_10 a0_11 a0_12).bind fun t231 => (some (t230 == t231)))) else (some false))) = some r := H
      have A24 := am A240
      clear A240
      replace H := bS H
      obtain ⟨t229, A250, H⟩ := H
      replace H : (if t229 = true then ((hops_Width.f kj3 l0_0 l0_1 a0_2 a0_3 a0_4 a0_5 a0_6 a0_7 a0_8 a0_9 a0_10 a0_11 a0_12).bind fun t230 => ((dr5_Width.f kj3 l0_0 l0_1 a0_2 a0_3 a0_4 a0_5 a0_6 a0_7 a0_8 a0_9 a0_10 a0_11 a0_12).bind fun t231 => (some (t230 == t231)))) else (some false)) = some r := H
      have A25 := am A250
      clear A250
      by_cases c26 : t229 = true
      ·subst c26
       have H1 : ((hops_Width.f kj3 l0_0 l0_1 a0_2 a0_3 a0_4 a0_5 a0_6 a0_7 a0_8 a0_9 a0_10 a0_11 a0_12).bind fun t230 => ((dr5_Width.f kj3 l0_0 l0_1 a0_2 a0_3 a0_4 a0_5 a0_6 a0_7 a0_8 a0_9 a0_10 a0_11 a0_12).bind fun t231 => (some (t230 == t231)))) = some r := by rw [if_pos rfl] at H; exact H
       clear H
       have H := H1
       clear H1
       replace H := bS H
       obtain ⟨t230, A270, H⟩ := H
       replace H : ((dr5_Width.f kj3 l0_0 l0_1 a0_2 a0_3 a0_4 a0_5 a0_6 a0_7 a0_8 a0_9 a0_10 a0_11 a0_12).bind fun t231 => (some (t230 == t231))) = some r := H
       have A27 := am A270
       clear A270
       replace H := bS H
       obtain ⟨t231, A280, H⟩ := H
       replace H : (some (t230 == t231)) = some r := H
       have A28 := am A280
       clear A280
       obtain rfl := Option.some.inj H
       try go_wp2
       have n0_ := am (blk_drew BK216.out)
       have n1_ := am (below_drew1 HB.out)
       clear BK216
       clear HB
       have BK216 := n0_
       have HB := n1_
       clear n0_ n1_
       refine start_ (n := 39) (S := fun w' => w'.cell? ⟨gb216, 0, none⟩ = some (.slice A0_0 l0_0.length c0_0) ∧ w'.cell? ⟨gb216, 1, none⟩ = some (.slice A0_1 l0_1.length c0_1) ∧ w'.cell? ⟨gb216, 2, none⟩ = some (.int .i64 a0_2) ∧ w'.cell? ⟨gb216, 3, none⟩ = some (.int .i64 a0_3) ∧ w'.cell? ⟨gb216, 4, none⟩ = some (.int .i64 a0_4) ∧ w'.cell? ⟨gb216, 5, none⟩ = some (.int .i64 a0_5) ∧ w'.cell? ⟨gb216, 6, none⟩ = some (.int .i64 a0_6) ∧ w'.cell? ⟨gb216, 7, none⟩ = some (.int .i64 a0_7) ∧ w'.cell? ⟨gb216, 8, none⟩ = some (.int .i64 a0_8) ∧ w'.cell? ⟨gb216, 9, none⟩ = some (.int .i64 a0_9) ∧ w'.cell? ⟨gb216, 10, none⟩ = some (.int .i64 a0_10) ∧ w'.cell? ⟨gb216, 11, none⟩ = some (.int .i64 a0_11) ∧ w'.cell? ⟨gb216, 12, none⟩ = some (.int .i64 a0_12)) (ds := []) #[false, false, false, false, false, false, false, false, false, false, false, false, false, false, false, false, false, false, false, false, false, false, false, false, false, false, false, false, false, false, false, false, false, false, false, false, false, false, false] (by kernel_rfl) rfl rfl (cellsK13 BK216.out) (fun hHeld => ?_); refine with_tabW dl6_HopsTells.tab3 dl6_HopsTells.bits3 (fun HT_ HW_ => ?_)
       generalize wc.drew = w29 at BK216 HB hHeld ⊢
       refine pv HT_ 1 23 ?_
       refine pv HT_ 2 24 ?_
       refine pv HT_ 5 27 ?_
       refine pv HT_ 6 28 ?_
       refine tw13 HT_ HW_ 0 22 ?_
       refine tw13 HT_ HW_ 4 26 ?_
       refine ov HT_ 3 25 (fun K hK => ?_)
       refine goes_ Tryd.func5 (by kernel_rfl) rfl #[.agg #[.slice A0_0 l0_0.length c0_0, .slice A0_1 l0_1.length c0_1, .int .i64 a0_2, .int .i64 a0_3, .int .i64 a0_4, .int .i64 a0_5, .int .i64 a0_6, .int .i64 a0_7, .int .i64 a0_8, .int .i64 a0_9, .int .i64 a0_10, .int .i64 a0_11, .int .i64 a0_12], .int .i64 a1, .int .i64 a2] (by rfl) rfl rfl lm ?_
       with_reducible refine (hops_Dist.calls kj3 _ _ l0_0 _ _ l0_1 a0_2 a0_3 a0_4 a0_5 a0_6 a0_7 a0_8 a0_9 a0_10 a0_11 a0_12 a1 a2 t219 _ ?side1 ?side2 ?side3 ?side4 A17.out (Gv.below (k := 0) HG.out (bl1 GE216))).mono ?_
       (case side1 => exact kc HR0_0)
       (case side2 => exact HC0_0.out)
       (case side3 => exact kc HR0_1)
       (case side4 => exact HC0_1.out)
       rintro e w30 ⟨rfl, hb⟩
       refine ⟨_, rfl, ?_⟩
       have n0_ := am (blk_below (bk BK216) hb)
       have n1_ := am (below_step (bl1 GE216) hb)
       clear BK216
       clear HB
       have BK216 := n0_
       have HB := n1_
       clear n0_ n1_
       (try clear hb)
       (try clear hb2)
       (try clear hk)
       (try clear hi)
       refine hK.out _ _ (cellsK13 BK216.out) (fun hHeld => ?_)
       clear hK K
       refine norm_ (a' := ?_) ?_ ?_
       rotate_left
       ·show Act.put _ (some 25) _ = _
        simp only [Act.put, sAa, sBb, sCc, i64_w, i32_w]
        rfl
       refine ov HT_ 7 29 (fun K hK => ?_)
       refine goes_ Tryd.func6 (by kernel_rfl) rfl #[.agg #[.slice A0_0 l0_0.length c0_0, .slice A0_1 l0_1.length c0_1, .int .i64 a0_2, .int .i64 a0_3, .int .i64 a0_4, .int .i64 a0_5, .int .i64 a0_6, .int .i64 a0_7, .int .i64 a0_8, .int .i64 a0_9, .int .i64 a0_10, .int .i64 a0_11, .int .i64 a0_12], .int .i64 a1, .int .i64 a2] (by rfl) rfl rfl lm ?_
       with_reducible refine (dr5_Dist.calls kj3 _ _ l0_0 _ _ l0_1 a0_2 a0_3 a0_4 a0_5 a0_6 a0_7 a0_8 a0_9 a0_10 a0_11 a0_12 a1 a2 t220 _ ?side1 ?side2 ?side3 ?side4 A18.out).mono ?_
       (case side1 => exact kc HR0_0)
       (case side2 => exact HC0_0.out)
       (case side3 => exact kc HR0_1)
       (case side4 => exact HC0_1.out)
       rintro e w31 ⟨rfl, hb⟩
       refine ⟨_, rfl, ?_⟩
       have n0_ := am (blk_below (bk BK216) hb)
       have n1_ := am (below_step (bl1 GE216) hb)
       clear BK216
       clear HB
       have BK216 := n0_
       have HB := n1_
       clear n0_ n1_
       (try clear hb)
       (try clear hb2)
       (try clear hk)
       (try clear hi)
       refine hK.out _ _ (cellsK13 BK216.out) (fun hHeld => ?_)
       clear hK K
       refine norm_ (a' := ?_) ?_ ?_
       rotate_left
       ·show Act.put _ (some 29) _ = _
        simp only [Act.put, sAa, sBb, sCc, i64_w, i32_w]
        rfl
       refine pv HT_ 8 30 ?_
       refine pv HT_ 9 31 ?_
       refine pv HT_ 11 33 ?_
       refine pv HT_ 12 34 ?_
       refine pv HT_ 15 37 ?_
       refine pv HT_ 16 38 ?_
       refine tw13 HT_ HW_ 10 32 ?_
       refine tw13 HT_ HW_ 14 36 ?_
       refine ov HT_ 13 35 (fun K hK => ?_)
       refine goes_ Tryd.func7 (by kernel_rfl) rfl #[.agg #[.slice A0_0 l0_0.length c0_0, .slice A0_1 l0_1.length c0_1, .int .i64 a0_2, .int .i64 a0_3, .int .i64 a0_4, .int .i64 a0_5, .int .i64 a0_6, .int .i64 a0_7, .int .i64 a0_8, .int .i64 a0_9, .int .i64 a0_10, .int .i64 a0_11, .int .i64 a0_12], .int .i64 a1, .int .i64 a2] (by rfl) rfl rfl lm ?_
       with_reducible refine (hops_Next.calls _ _ l0_0 _ _ l0_1 a0_2 a0_3 a0_4 a0_5 a0_6 a0_7 a0_8 a0_9 a0_10 a0_11 a0_12 a1 a2 t221 _ ?side1 ?side2 ?side3 ?side4 A20.out (Gv.below (k := 0) HG.out (bl1 GE216))).mono ?_
       (case side1 => exact kc HR0_0)
       (case side2 => exact HC0_0.out)
       (case side3 => exact kc HR0_1)
       (case side4 => exact HC0_1.out)
       rintro e w32 ⟨rfl, hb⟩
       refine ⟨_, rfl, ?_⟩
       have n0_ := am (blk_below (bk BK216) hb)
       have n1_ := am (below_step (bl1 GE216) hb)
       clear BK216
       clear HB
       have BK216 := n0_
       have HB := n1_
       clear n0_ n1_
       (try clear hb)
       (try clear hb2)
       (try clear hk)
       (try clear hi)
       refine hK.out _ _ (cellsK13 BK216.out) (fun hHeld => ?_)
       clear hK K
       refine norm_ (a' := ?_) ?_ ?_
       rotate_left
       ·show Act.put _ (some 35) _ = _
        simp only [Act.put, sAa, sBb, sCc, i64_w, i32_w]
        rfl
       refine ov HT_ 17 39 (fun K hK => ?_)
       refine goes_ Tryd.func8 (by kernel_rfl) rfl #[.agg #[.slice A0_0 l0_0.length c0_0, .slice A0_1 l0_1.length c0_1, .int .i64 a0_2, .int .i64 a0_3, .int .i64 a0_4, .int .i64 a0_5, .int .i64 a0_6, .int .i64 a0_7, .int .i64 a0_8, .int .i64 a0_9, .int .i64 a0_10, .int .i64 a0_11, .int .i64 a0_12], .int .i64 a1, .int .i64 a2] (by rfl) rfl rfl lm ?_
       with_reducible refine (dr5_Next.calls kj3 _ _ l0_0 _ _ l0_1 a0_2 a0_3 a0_4 a0_5 a0_6 a0_7 a0_8 a0_9 a0_10 a0_11 a0_12 a1 a2 t222 _ ?side1 ?side2 ?side3 ?side4 A21.out).mono ?_
       (case side1 => exact kc HR0_0)
       (case side2 => exact HC0_0.out)
       (case side3 => exact kc HR0_1)
       (case side4 => exact HC0_1.out)
       rintro e w33 ⟨rfl, hb⟩
       refine ⟨_, rfl, ?_⟩
       have n0_ := am (blk_below (bk BK216) hb)
       have n1_ := am (below_step (bl1 GE216) hb)
       clear BK216
       clear HB
       have BK216 := n0_
       have HB := n1_
       clear n0_ n1_
       (try clear hb)
       (try clear hb2)
       (try clear hk)
       (try clear hi)
       refine hK.out _ _ (cellsK13 BK216.out) (fun hHeld => ?_)
       clear hK K
       refine norm_ (a' := ?_) ?_ ?_
       rotate_left
       ·show Act.put _ (some 39) _ = _
        simp only [Act.put, sAa, sBb, sCc, i64_w, i32_w]
        rfl
       refine pv HT_ 18 40 ?_
       refine pv HT_ 19 41 ?_
       refine pv HT_ 20 42 ?_
       refine pv HT_ 22 44 ?_
       refine pv HT_ 23 45 ?_
       refine pv HT_ 26 48 ?_
       refine pv HT_ 27 49 ?_
       refine tw13 HT_ HW_ 21 43 ?_
       refine tw13 HT_ HW_ 25 47 ?_
       refine ov HT_ 24 46 (fun K hK => ?_)
       refine goes_ Tryd.func10 (by kernel_rfl) rfl #[.agg #[.slice A0_0 l0_0.length c0_0, .slice A0_1 l0_1.length c0_1, .int .i64 a0_2, .int .i64 a0_3, .int .i64 a0_4, .int .i64 a0_5, .int .i64 a0_6, .int .i64 a0_7, .int .i64 a0_8, .int .i64 a0_9, .int .i64 a0_10, .int .i64 a0_11, .int .i64 a0_12], .int .i64 a1, .int .i64 a2] (by rfl) rfl rfl lm ?_
       with_reducible refine (hops_Way.calls kj3 _ _ l0_0 _ _ l0_1 a0_2 a0_3 a0_4 a0_5 a0_6 a0_7 a0_8 a0_9 a0_10 a0_11 a0_12 a1 a2 t223 _ ?side1 ?side2 ?side3 ?side4 A23.out (Gv.below (k := 0) HG.out (bl1 GE216))).mono ?_
       (case side1 => exact kc HR0_0)
       (case side2 => exact HC0_0.out)
       (case side3 => exact kc HR0_1)
       (case side4 => exact HC0_1.out)
       rintro e w34 ⟨v224, rfl, ho0, hb⟩
       refine ⟨_, rfl, ?_⟩
       have n0_ := am (Kd.R_lower ho0 (below_size (bl1 GE216)))
       have n1_ := am (blk_below (bk BK216) hb)
       have n2_ := am (below_step (bl1 GE216) hb)
       clear BK216
       clear HB
       have HO225 := n0_
       have BK216 := n1_
       have HB := n2_
       clear n0_ n1_ n2_
       (try clear hb)
       (try clear hb2)
       (try clear hk)
       (try clear hi)
       (try clear ho0)
       refine hK.out _ _ (cellsK13 BK216.out) (fun hHeld => ?_)
       clear hK K
       refine norm_ (a' := ?_) ?_ ?_
       rotate_left
       ·show Act.put _ (some 46) _ = _
        simp only [Act.put, sAa, sBb, sCc, i64_w, i32_w]
        rfl
       refine ov HT_ 28 50 (fun K hK => ?_)
       refine goes_ Tryd.func11 (by kernel_rfl) rfl #[.agg #[.slice A0_0 l0_0.length c0_0, .slice A0_1 l0_1.length c0_1, .int .i64 a0_2, .int .i64 a0_3, .int .i64 a0_4, .int .i64 a0_5, .int .i64 a0_6, .int .i64 a0_7, .int .i64 a0_8, .int .i64 a0_9, .int .i64 a0_10, .int .i64 a0_11, .int .i64 a0_12], .int .i64 a1, .int .i64 a2] (by rfl) rfl rfl lm ?_
       with_reducible refine (dr5_Way.calls kj3 _ _ l0_0 _ _ l0_1 a0_2 a0_3 a0_4 a0_5 a0_6 a0_7 a0_8 a0_9 a0_10 a0_11 a0_12 a1 a2 t226 _ ?side1 ?side2 ?side3 ?side4 A24.out).mono ?_
       (case side1 => exact kc HR0_0)
       (case side2 => exact HC0_0.out)
       (case side3 => exact kc HR0_1)
       (case side4 => exact HC0_1.out)
       rintro e w35 ⟨v227, rfl, ho0, hb⟩
       refine ⟨_, rfl, ?_⟩
       have n0_ := am (Kd.R_elder' (kr HO225.out) (Kd.R_base ho0) hb)
       have n1_ := am (Kd.R_lower (Kd.R_new' ho0 (Kd.R_lt (kr HO225.out))) (below_size (bl1 GE216)))
       have n2_ := am (blk_below (bk BK216) hb)
       have n3_ := am (below_step (bl1 GE216) hb)
       clear HO225
       clear BK216
       clear HB
       have HO225 := n0_
       have HO228 := n1_
       have BK216 := n2_
       have HB := n3_
       clear n0_ n1_ n2_ n3_
       (try clear hb)
       (try clear hb2)
       (try clear hk)
       (try clear hi)
       (try clear ho0)
       obtain ⟨Ao36, co36, eo36⟩ := Kd.R_slice HO225.out
       (first | subst eo36 | (injection eo36 with f1_ f2_ f3_; have f4_ := f1_.symm; have f5_ := f3_.symm; clear f1_ f2_ f3_; subst f4_; subst f5_))
       obtain ⟨Ao37, co37, eo37⟩ := Kd.R_slice HO228.out
       (first | subst eo37 | (injection eo37 with f1_ f2_ f3_; have f4_ := f1_.symm; have f5_ := f3_.symm; clear f1_ f2_ f3_; subst f4_; subst f5_))
       refine hK.out _ _ (cellsK13 BK216.out) (fun hHeld => ?_)
       clear hK K
       refine norm_ (a' := ?_) ?_ ?_
       rotate_left
       ·show Act.put _ (some 50) _ = _
        simp only [Act.put, sAa, sBb, sCc, i64_w, i32_w]
        rfl
       refine ov HT_ 29 51 (fun K hK => ?_)
       refine goes_ Tryd.func9 (by kernel_rfl) rfl #[.slice Ao36 t223.length co36, .slice Ao37 t226.length co37] (by rfl) rfl rfl lm ?_
       with_reducible refine (dr1_SameInts.calls kj3 _ _ t223 _ _ t226 true _ ?side1 ?side2 ?side3 ?side4 A25.out).mono ?_
       (case side1 => exact kg (Kd.R_reads' HO225.out).2.2)
       (case side2 => exact (Kd.R_reads' HO225.out).2.1)
       (case side3 => exact kg (Kd.R_reads' HO228.out).2.2)
       (case side4 => exact (Kd.R_reads' HO228.out).2.1)
       rintro e w' ⟨rfl, ⟨nd, rfl⟩⟩
       refine ⟨_, rfl, ?_⟩
       refine hK.out _ _ (cellsK13 BK216.out) (fun hHeld => ?_)
       clear hK K
       refine norm_ (a' := ?_) ?_ ?_
       rotate_left
       ·show Act.put _ (some 51) _ = _
        simp only [Act.put, sAa, sBb, sCc, i64_w, i32_w]
        rfl
       refine pv HT_ 30 52 ?_
       refine pv HT_ 31 53 ?_
       refine tw13 HT_ HW_ 32 54 ?_
       refine tw13 HT_ HW_ 34 56 ?_
       refine ov HT_ 33 55 (fun K hK => ?_)
       refine goes_ Tryd.func12 (by kernel_rfl) rfl #[.agg #[.slice A0_0 l0_0.length c0_0, .slice A0_1 l0_1.length c0_1, .int .i64 a0_2, .int .i64 a0_3, .int .i64 a0_4, .int .i64 a0_5, .int .i64 a0_6, .int .i64 a0_7, .int .i64 a0_8, .int .i64 a0_9, .int .i64 a0_10, .int .i64 a0_11, .int .i64 a0_12]] (by rfl) rfl rfl lm ?_
       with_reducible refine (hops_Width.calls kj3 _ _ l0_0 _ _ l0_1 a0_2 a0_3 a0_4 a0_5 a0_6 a0_7 a0_8 a0_9 a0_10 a0_11 a0_12 t230 _ ?side1 ?side2 ?side3 ?side4 A27.out (Gv.below (k := 0) HG.out (bl1 GE216))).mono ?_
       (case side1 => repeat (first | exact (Kd.C_below HR0_0.out (bl1 GE216)) | (with_reducible refine Kd.C_alloc ?_ _) | (with_reducible refine Kd.C_drewN ?_ _) | (with_reducible refine Kd.C_drew ?_)))
       (case side2 => exact HC0_0.out)
       (case side3 => repeat (first | exact (Kd.C_below HR0_1.out (bl1 GE216)) | (with_reducible refine Kd.C_alloc ?_ _) | (with_reducible refine Kd.C_drewN ?_ _) | (with_reducible refine Kd.C_drew ?_)))
       (case side4 => exact HC0_1.out)
       rintro e w38 ⟨rfl, hb⟩
       refine ⟨_, rfl, ?_⟩
       have n0_ := am (Kd.R_below (kr HO225.out) hb)
       have n1_ := am (Kd.R_below (kr HO228.out) hb)
       have n2_ := am (blk_below (bk BK216) hb)
       have n3_ := am (below_step (bl1 GE216) hb)
       clear HO225
       clear HO228
       clear BK216
       clear HB
       have HO225 := n0_
       have HO228 := n1_
       have BK216 := n2_
       have HB := n3_
       clear n0_ n1_ n2_ n3_
       (try clear hb)
       (try clear hb2)
       (try clear hk)
       (try clear hi)
       refine hK.out _ _ (cellsK13 BK216.out) (fun hHeld => ?_)
       clear hK K
       refine norm_ (a' := ?_) ?_ ?_
       rotate_left
       ·show Act.put _ (some 55) _ = _
        simp only [Act.put, sAa, sBb, sCc, i64_w, i32_w]
        rfl
       refine ov HT_ 35 57 (fun K hK => ?_)
       refine goes_ Tryd.func13 (by kernel_rfl) rfl #[.agg #[.slice A0_0 l0_0.length c0_0, .slice A0_1 l0_1.length c0_1, .int .i64 a0_2, .int .i64 a0_3, .int .i64 a0_4, .int .i64 a0_5, .int .i64 a0_6, .int .i64 a0_7, .int .i64 a0_8, .int .i64 a0_9, .int .i64 a0_10, .int .i64 a0_11, .int .i64 a0_12]] (by rfl) rfl rfl lm ?_
       with_reducible refine (dr5_Width.calls kj3 _ _ l0_0 _ _ l0_1 a0_2 a0_3 a0_4 a0_5 a0_6 a0_7 a0_8 a0_9 a0_10 a0_11 a0_12 t231 _ ?side1 ?side2 ?side3 ?side4 A28.out).mono ?_
       (case side1 => exact kc HR0_0)
       (case side2 => exact HC0_0.out)
       (case side3 => exact kc HR0_1)
       (case side4 => exact HC0_1.out)
       rintro e w39 ⟨rfl, hb⟩
       refine ⟨_, rfl, ?_⟩
       have n0_ := am (Kd.R_below (kr HO225.out) hb)
       have n1_ := am (Kd.R_below (kr HO228.out) hb)
       have n2_ := am (blk_below (bk BK216) hb)
       have n3_ := am (below_step (bl1 GE216) hb)
       clear HO225
       clear HO228
       clear BK216
       clear HB
       have HO225 := n0_
       have HO228 := n1_
       have BK216 := n2_
       have HB := n3_
       clear n0_ n1_ n2_ n3_
       (try clear hb)
       (try clear hb2)
       (try clear hk)
       (try clear hi)
       refine hK.out _ _ (cellsK13 BK216.out) (fun hHeld => ?_)
       clear hK K
       refine norm_ (a' := ?_) ?_ ?_
       rotate_left
       ·show Act.put _ (some 57) _ = _
        simp only [Act.put, sAa, sBb, sCc, i64_w, i32_w]
        rfl
       refine pv HT_ 36 58 ?_
       refine pv HT_ 37 59 ?_
       refine pv HT_ 38 6 ?_
       refine done_ (done_of HT_.out (by kernel_rfl)) ?_
       try go_wp2
       go_ret
       exact ⟨ew, bl1 GE216⟩
      ·replace c26 := Bool.eq_false_iff.mpr c26
       subst c26
       have H1 : (some false) = some r := by rw [if_neg (show ¬ (false = true) by decide)] at H; exact H
       clear H
       have H := H1
       clear H1
       obtain rfl := Option.some.inj H
       try go_wp2
       have n0_ := am (blk_drew BK216.out)
       have n1_ := am (below_drew1 HB.out)
       clear BK216
       clear HB
       have BK216 := n0_
       have HB := n1_
       clear n0_ n1_
       refine start_ (n := 39) (S := fun w' => w'.cell? ⟨gb216, 0, none⟩ = some (.slice A0_0 l0_0.length c0_0) ∧ w'.cell? ⟨gb216, 1, none⟩ = some (.slice A0_1 l0_1.length c0_1) ∧ w'.cell? ⟨gb216, 2, none⟩ = some (.int .i64 a0_2) ∧ w'.cell? ⟨gb216, 3, none⟩ = some (.int .i64 a0_3) ∧ w'.cell? ⟨gb216, 4, none⟩ = some (.int .i64 a0_4) ∧ w'.cell? ⟨gb216, 5, none⟩ = some (.int .i64 a0_5) ∧ w'.cell? ⟨gb216, 6, none⟩ = some (.int .i64 a0_6) ∧ w'.cell? ⟨gb216, 7, none⟩ = some (.int .i64 a0_7) ∧ w'.cell? ⟨gb216, 8, none⟩ = some (.int .i64 a0_8) ∧ w'.cell? ⟨gb216, 9, none⟩ = some (.int .i64 a0_9) ∧ w'.cell? ⟨gb216, 10, none⟩ = some (.int .i64 a0_10) ∧ w'.cell? ⟨gb216, 11, none⟩ = some (.int .i64 a0_11) ∧ w'.cell? ⟨gb216, 12, none⟩ = some (.int .i64 a0_12)) (ds := []) #[false, false, false, false, false, false, false, false, false, false, false, false, false, false, false, false, false, false, false, false, false, false, false, false, false, false, false, false, false, false, false, false, false, false, false, false, false, false, false] (by kernel_rfl) rfl rfl (cellsK13 BK216.out) (fun hHeld => ?_); refine with_tabW dl6_HopsTells.tab3 dl6_HopsTells.bits3 (fun HT_ HW_ => ?_)
       generalize wc.drew = w40 at BK216 HB hHeld ⊢
       refine pv HT_ 1 23 ?_
       refine pv HT_ 2 24 ?_
       refine pv HT_ 5 27 ?_
       refine pv HT_ 6 28 ?_
       refine tw13 HT_ HW_ 0 22 ?_
       refine tw13 HT_ HW_ 4 26 ?_
       refine ov HT_ 3 25 (fun K hK => ?_)
       refine goes_ Tryd.func5 (by kernel_rfl) rfl #[.agg #[.slice A0_0 l0_0.length c0_0, .slice A0_1 l0_1.length c0_1, .int .i64 a0_2, .int .i64 a0_3, .int .i64 a0_4, .int .i64 a0_5, .int .i64 a0_6, .int .i64 a0_7, .int .i64 a0_8, .int .i64 a0_9, .int .i64 a0_10, .int .i64 a0_11, .int .i64 a0_12], .int .i64 a1, .int .i64 a2] (by rfl) rfl rfl lm ?_
       with_reducible refine (hops_Dist.calls kj3 _ _ l0_0 _ _ l0_1 a0_2 a0_3 a0_4 a0_5 a0_6 a0_7 a0_8 a0_9 a0_10 a0_11 a0_12 a1 a2 t219 _ ?side1 ?side2 ?side3 ?side4 A17.out (Gv.below (k := 0) HG.out (bl1 GE216))).mono ?_
       (case side1 => exact kc HR0_0)
       (case side2 => exact HC0_0.out)
       (case side3 => exact kc HR0_1)
       (case side4 => exact HC0_1.out)
       rintro e w41 ⟨rfl, hb⟩
       refine ⟨_, rfl, ?_⟩
       have n0_ := am (blk_below (bk BK216) hb)
       have n1_ := am (below_step (bl1 GE216) hb)
       clear BK216
       clear HB
       have BK216 := n0_
       have HB := n1_
       clear n0_ n1_
       (try clear hb)
       (try clear hb2)
       (try clear hk)
       (try clear hi)
       refine hK.out _ _ (cellsK13 BK216.out) (fun hHeld => ?_)
       clear hK K
       refine norm_ (a' := ?_) ?_ ?_
       rotate_left
       ·show Act.put _ (some 25) _ = _
        simp only [Act.put, sAa, sBb, sCc, i64_w, i32_w]
        rfl
       refine ov HT_ 7 29 (fun K hK => ?_)
       refine goes_ Tryd.func6 (by kernel_rfl) rfl #[.agg #[.slice A0_0 l0_0.length c0_0, .slice A0_1 l0_1.length c0_1, .int .i64 a0_2, .int .i64 a0_3, .int .i64 a0_4, .int .i64 a0_5, .int .i64 a0_6, .int .i64 a0_7, .int .i64 a0_8, .int .i64 a0_9, .int .i64 a0_10, .int .i64 a0_11, .int .i64 a0_12], .int .i64 a1, .int .i64 a2] (by rfl) rfl rfl lm ?_
       with_reducible refine (dr5_Dist.calls kj3 _ _ l0_0 _ _ l0_1 a0_2 a0_3 a0_4 a0_5 a0_6 a0_7 a0_8 a0_9 a0_10 a0_11 a0_12 a1 a2 t220 _ ?side1 ?side2 ?side3 ?side4 A18.out).mono ?_
       (case side1 => exact kc HR0_0)
       (case side2 => exact HC0_0.out)
       (case side3 => exact kc HR0_1)
       (case side4 => exact HC0_1.out)
       rintro e w42 ⟨rfl, hb⟩
       refine ⟨_, rfl, ?_⟩
       have n0_ := am (blk_below (bk BK216) hb)
       have n1_ := am (below_step (bl1 GE216) hb)
       clear BK216
       clear HB
       have BK216 := n0_
       have HB := n1_
       clear n0_ n1_
       (try clear hb)
       (try clear hb2)
       (try clear hk)
       (try clear hi)
       refine hK.out _ _ (cellsK13 BK216.out) (fun hHeld => ?_)
       clear hK K
       refine norm_ (a' := ?_) ?_ ?_
       rotate_left
       ·show Act.put _ (some 29) _ = _
        simp only [Act.put, sAa, sBb, sCc, i64_w, i32_w]
        rfl
       refine pv HT_ 8 30 ?_
       refine pv HT_ 9 31 ?_
       refine pv HT_ 11 33 ?_
       refine pv HT_ 12 34 ?_
       refine pv HT_ 15 37 ?_
       refine pv HT_ 16 38 ?_
       refine tw13 HT_ HW_ 10 32 ?_
       refine tw13 HT_ HW_ 14 36 ?_
       refine ov HT_ 13 35 (fun K hK => ?_)
       refine goes_ Tryd.func7 (by kernel_rfl) rfl #[.agg #[.slice A0_0 l0_0.length c0_0, .slice A0_1 l0_1.length c0_1, .int .i64 a0_2, .int .i64 a0_3, .int .i64 a0_4, .int .i64 a0_5, .int .i64 a0_6, .int .i64 a0_7, .int .i64 a0_8, .int .i64 a0_9, .int .i64 a0_10, .int .i64 a0_11, .int .i64 a0_12], .int .i64 a1, .int .i64 a2] (by rfl) rfl rfl lm ?_
       with_reducible refine (hops_Next.calls _ _ l0_0 _ _ l0_1 a0_2 a0_3 a0_4 a0_5 a0_6 a0_7 a0_8 a0_9 a0_10 a0_11 a0_12 a1 a2 t221 _ ?side1 ?side2 ?side3 ?side4 A20.out (Gv.below (k := 0) HG.out (bl1 GE216))).mono ?_
       (case side1 => exact kc HR0_0)
       (case side2 => exact HC0_0.out)
       (case side3 => exact kc HR0_1)
       (case side4 => exact HC0_1.out)
       rintro e w43 ⟨rfl, hb⟩
       refine ⟨_, rfl, ?_⟩
       have n0_ := am (blk_below (bk BK216) hb)
       have n1_ := am (below_step (bl1 GE216) hb)
       clear BK216
       clear HB
       have BK216 := n0_
       have HB := n1_
       clear n0_ n1_
       (try clear hb)
       (try clear hb2)
       (try clear hk)
       (try clear hi)
       refine hK.out _ _ (cellsK13 BK216.out) (fun hHeld => ?_)
       clear hK K
       refine norm_ (a' := ?_) ?_ ?_
       rotate_left
       ·show Act.put _ (some 35) _ = _
        simp only [Act.put, sAa, sBb, sCc, i64_w, i32_w]
        rfl
       refine ov HT_ 17 39 (fun K hK => ?_)
       refine goes_ Tryd.func8 (by kernel_rfl) rfl #[.agg #[.slice A0_0 l0_0.length c0_0, .slice A0_1 l0_1.length c0_1, .int .i64 a0_2, .int .i64 a0_3, .int .i64 a0_4, .int .i64 a0_5, .int .i64 a0_6, .int .i64 a0_7, .int .i64 a0_8, .int .i64 a0_9, .int .i64 a0_10, .int .i64 a0_11, .int .i64 a0_12], .int .i64 a1, .int .i64 a2] (by rfl) rfl rfl lm ?_
       with_reducible refine (dr5_Next.calls kj3 _ _ l0_0 _ _ l0_1 a0_2 a0_3 a0_4 a0_5 a0_6 a0_7 a0_8 a0_9 a0_10 a0_11 a0_12 a1 a2 t222 _ ?side1 ?side2 ?side3 ?side4 A21.out).mono ?_
       (case side1 => exact kc HR0_0)
       (case side2 => exact HC0_0.out)
       (case side3 => exact kc HR0_1)
       (case side4 => exact HC0_1.out)
       rintro e w44 ⟨rfl, hb⟩
       refine ⟨_, rfl, ?_⟩
       have n0_ := am (blk_below (bk BK216) hb)
       have n1_ := am (below_step (bl1 GE216) hb)
       clear BK216
       clear HB
       have BK216 := n0_
       have HB := n1_
       clear n0_ n1_
       (try clear hb)
       (try clear hb2)
       (try clear hk)
       (try clear hi)
       refine hK.out _ _ (cellsK13 BK216.out) (fun hHeld => ?_)
       clear hK K
       refine norm_ (a' := ?_) ?_ ?_
       rotate_left
       ·show Act.put _ (some 39) _ = _
        simp only [Act.put, sAa, sBb, sCc, i64_w, i32_w]
        rfl
       refine pv HT_ 18 40 ?_
       refine pv HT_ 19 41 ?_
       refine pv HT_ 20 42 ?_
       refine pv HT_ 22 44 ?_
       refine pv HT_ 23 45 ?_
       refine pv HT_ 26 48 ?_
       refine pv HT_ 27 49 ?_
       refine tw13 HT_ HW_ 21 43 ?_
       refine tw13 HT_ HW_ 25 47 ?_
       refine ov HT_ 24 46 (fun K hK => ?_)
       refine goes_ Tryd.func10 (by kernel_rfl) rfl #[.agg #[.slice A0_0 l0_0.length c0_0, .slice A0_1 l0_1.length c0_1, .int .i64 a0_2, .int .i64 a0_3, .int .i64 a0_4, .int .i64 a0_5, .int .i64 a0_6, .int .i64 a0_7, .int .i64 a0_8, .int .i64 a0_9, .int .i64 a0_10, .int .i64 a0_11, .int .i64 a0_12], .int .i64 a1, .int .i64 a2] (by rfl) rfl rfl lm ?_
       with_reducible refine (hops_Way.calls kj3 _ _ l0_0 _ _ l0_1 a0_2 a0_3 a0_4 a0_5 a0_6 a0_7 a0_8 a0_9 a0_10 a0_11 a0_12 a1 a2 t223 _ ?side1 ?side2 ?side3 ?side4 A23.out (Gv.below (k := 0) HG.out (bl1 GE216))).mono ?_
       (case side1 => exact kc HR0_0)
       (case side2 => exact HC0_0.out)
       (case side3 => exact kc HR0_1)
       (case side4 => exact HC0_1.out)
       rintro e w45 ⟨v224, rfl, ho0, hb⟩
       refine ⟨_, rfl, ?_⟩
       have n0_ := am (Kd.R_lower ho0 (below_size (bl1 GE216)))
       have n1_ := am (blk_below (bk BK216) hb)
       have n2_ := am (below_step (bl1 GE216) hb)
       clear BK216
       clear HB
       have HO225 := n0_
       have BK216 := n1_
       have HB := n2_
       clear n0_ n1_ n2_
       (try clear hb)
       (try clear hb2)
       (try clear hk)
       (try clear hi)
       (try clear ho0)
       refine hK.out _ _ (cellsK13 BK216.out) (fun hHeld => ?_)
       clear hK K
       refine norm_ (a' := ?_) ?_ ?_
       rotate_left
       ·show Act.put _ (some 46) _ = _
        simp only [Act.put, sAa, sBb, sCc, i64_w, i32_w]
        rfl
       refine ov HT_ 28 50 (fun K hK => ?_)
       refine goes_ Tryd.func11 (by kernel_rfl) rfl #[.agg #[.slice A0_0 l0_0.length c0_0, .slice A0_1 l0_1.length c0_1, .int .i64 a0_2, .int .i64 a0_3, .int .i64 a0_4, .int .i64 a0_5, .int .i64 a0_6, .int .i64 a0_7, .int .i64 a0_8, .int .i64 a0_9, .int .i64 a0_10, .int .i64 a0_11, .int .i64 a0_12], .int .i64 a1, .int .i64 a2] (by rfl) rfl rfl lm ?_
       with_reducible refine (dr5_Way.calls kj3 _ _ l0_0 _ _ l0_1 a0_2 a0_3 a0_4 a0_5 a0_6 a0_7 a0_8 a0_9 a0_10 a0_11 a0_12 a1 a2 t226 _ ?side1 ?side2 ?side3 ?side4 A24.out).mono ?_
       (case side1 => exact kc HR0_0)
       (case side2 => exact HC0_0.out)
       (case side3 => exact kc HR0_1)
       (case side4 => exact HC0_1.out)
       rintro e w46 ⟨v227, rfl, ho0, hb⟩
       refine ⟨_, rfl, ?_⟩
       have n0_ := am (Kd.R_elder' (kr HO225.out) (Kd.R_base ho0) hb)
       have n1_ := am (Kd.R_lower (Kd.R_new' ho0 (Kd.R_lt (kr HO225.out))) (below_size (bl1 GE216)))
       have n2_ := am (blk_below (bk BK216) hb)
       have n3_ := am (below_step (bl1 GE216) hb)
       clear HO225
       clear BK216
       clear HB
       have HO225 := n0_
       have HO228 := n1_
       have BK216 := n2_
       have HB := n3_
       clear n0_ n1_ n2_ n3_
       (try clear hb)
       (try clear hb2)
       (try clear hk)
       (try clear hi)
       (try clear ho0)
       obtain ⟨Ao47, co47, eo47⟩ := Kd.R_slice HO225.out
       (first | subst eo47 | (injection eo47 with f1_ f2_ f3_; have f4_ := f1_.symm; have f5_ := f3_.symm; clear f1_ f2_ f3_; subst f4_; subst f5_))
       obtain ⟨Ao48, co48, eo48⟩ := Kd.R_slice HO228.out
       (first | subst eo48 | (injection eo48 with f1_ f2_ f3_; have f4_ := f1_.symm; have f5_ := f3_.symm; clear f1_ f2_ f3_; subst f4_; subst f5_))
       refine hK.out _ _ (cellsK13 BK216.out) (fun hHeld => ?_)
       clear hK K
       refine norm_ (a' := ?_) ?_ ?_
       rotate_left
       ·show Act.put _ (some 50) _ = _
        simp only [Act.put, sAa, sBb, sCc, i64_w, i32_w]
        rfl
       refine ov HT_ 29 51 (fun K hK => ?_)
       refine goes_ Tryd.func9 (by kernel_rfl) rfl #[.slice Ao47 t223.length co47, .slice Ao48 t226.length co48] (by rfl) rfl rfl lm ?_
       with_reducible refine (dr1_SameInts.calls kj3 _ _ t223 _ _ t226 false _ ?side1 ?side2 ?side3 ?side4 A25.out).mono ?_
       (case side1 => exact kg (Kd.R_reads' HO225.out).2.2)
       (case side2 => exact (Kd.R_reads' HO225.out).2.1)
       (case side3 => exact kg (Kd.R_reads' HO228.out).2.2)
       (case side4 => exact (Kd.R_reads' HO228.out).2.1)
       rintro e w' ⟨rfl, ⟨nd, rfl⟩⟩
       refine ⟨_, rfl, ?_⟩
       refine hK.out _ _ (cellsK13 BK216.out) (fun hHeld => ?_)
       clear hK K
       refine norm_ (a' := ?_) ?_ ?_
       rotate_left
       ·show Act.put _ (some 51) _ = _
        simp only [Act.put, sAa, sBb, sCc, i64_w, i32_w]
        rfl
       refine pv HT_ 30 52 ?_
       refine pv HT_ 31 53 ?_
       refine pure_ (i := 32) (N := some 54) (v := undef) (a' := ?_) #[true, true, true, true, true, true, true, true, true, true, true, true, true, true, true, true, true, true, true, true, true, true, true, true, true, true, true, true, true, true, true, true, true, false, false, false, false, false, false] rfl rfl (any_of HT_.out (by kernel_rfl)) (fun _ _ _ h => h) (Or.inr ⟨by rfl, rfl⟩) ?_ ?_
       rotate_left
       ·simp only [Act.put, sAa, sBb, sCc, i64_w, i32_w]
        rfl
       refine pure_ (i := 33) (N := some 55) (v := undef) (a' := ?_) #[true, true, true, true, true, true, true, true, true, true, true, true, true, true, true, true, true, true, true, true, true, true, true, true, true, true, true, true, true, true, true, true, true, true, false, false, false, false, false] rfl rfl (any_of HT_.out (by kernel_rfl)) (fun _ _ _ h => h) (Or.inr ⟨by rfl, rfl⟩) ?_ ?_
       rotate_left
       ·simp only [Act.put, sAa, sBb, sCc, i64_w, i32_w]
        rfl
       refine pure_ (i := 34) (N := some 56) (v := undef) (a' := ?_) #[true, true, true, true, true, true, true, true, true, true, true, true, true, true, true, true, true, true, true, true, true, true, true, true, true, true, true, true, true, true, true, true, true, true, true, false, false, false, false] rfl rfl (any_of HT_.out (by kernel_rfl)) (fun _ _ _ h => h) (Or.inr ⟨by rfl, rfl⟩) ?_ ?_
       rotate_left
       ·simp only [Act.put, sAa, sBb, sCc, i64_w, i32_w]
        rfl
       refine pure_ (i := 35) (N := some 57) (v := undef) (a' := ?_) #[true, true, true, true, true, true, true, true, true, true, true, true, true, true, true, true, true, true, true, true, true, true, true, true, true, true, true, true, true, true, true, true, true, true, true, true, false, false, false] rfl rfl (any_of HT_.out (by kernel_rfl)) (fun _ _ _ h => h) (Or.inr ⟨by rfl, rfl⟩) ?_ ?_
       rotate_left
       ·simp only [Act.put, sAa, sBb, sCc, i64_w, i32_w]
        rfl
       refine pure_ (i := 36) (N := some 58) (v := undef) (a' := ?_) #[true, true, true, true, true, true, true, true, true, true, true, true, true, true, true, true, true, true, true, true, true, true, true, true, true, true, true, true, true, true, true, true, true, true, true, true, true, false, false] rfl rfl (any_of HT_.out (by kernel_rfl)) (fun _ _ _ h => h) (Or.inr ⟨by rfl, rfl⟩) ?_ ?_
       rotate_left
       ·simp only [Act.put, sAa, sBb, sCc, i64_w, i32_w]
        rfl
       refine pv HT_ 37 59 ?_
       refine pv HT_ 38 6 ?_
       refine done_ (done_of HT_.out (by kernel_rfl)) ?_
       try go_wp2
       go_ret
       exact ⟨ew, bl1 GE216⟩
     ·rw [if_neg c22] at H
      have c22b0 : (t221 == t222) = false := beq_eq_false_iff_ne.mpr c22
      have c22b1 : (t221 != t222) = true := bne_iff_ne.mpr c22
      obtain rfl := Option.some.inj H
      try go_wp2
      have n0_ := am (blk_drew BK216.out)
      have n1_ := am (below_drew1 HB.out)
      clear BK216
      clear HB
      have BK216 := n0_
      have HB := n1_
      clear n0_ n1_
      refine start_ (n := 39) (S := fun w' => w'.cell? ⟨gb216, 0, none⟩ = some (.slice A0_0 l0_0.length c0_0) ∧ w'.cell? ⟨gb216, 1, none⟩ = some (.slice A0_1 l0_1.length c0_1) ∧ w'.cell? ⟨gb216, 2, none⟩ = some (.int .i64 a0_2) ∧ w'.cell? ⟨gb216, 3, none⟩ = some (.int .i64 a0_3) ∧ w'.cell? ⟨gb216, 4, none⟩ = some (.int .i64 a0_4) ∧ w'.cell? ⟨gb216, 5, none⟩ = some (.int .i64 a0_5) ∧ w'.cell? ⟨gb216, 6, none⟩ = some (.int .i64 a0_6) ∧ w'.cell? ⟨gb216, 7, none⟩ = some (.int .i64 a0_7) ∧ w'.cell? ⟨gb216, 8, none⟩ = some (.int .i64 a0_8) ∧ w'.cell? ⟨gb216, 9, none⟩ = some (.int .i64 a0_9) ∧ w'.cell? ⟨gb216, 10, none⟩ = some (.int .i64 a0_10) ∧ w'.cell? ⟨gb216, 11, none⟩ = some (.int .i64 a0_11) ∧ w'.cell? ⟨gb216, 12, none⟩ = some (.int .i64 a0_12)) (ds := []) #[false, false, false, false, false, false, false, false, false, false, false, false, false, false, false, false, false, false, false, false, false, false, false, false, false, false, false, false, false, false, false, false, false, false, false, false, false, false, false] (by kernel_rfl) rfl rfl (cellsK13 BK216.out) (fun hHeld => ?_); refine with_tabW dl6_HopsTells.tab3 dl6_HopsTells.bits3 (fun HT_ HW_ => ?_)
      generalize wc.drew = w49 at BK216 HB hHeld ⊢
      refine pv HT_ 1 23 ?_
      refine pv HT_ 2 24 ?_
      refine pv HT_ 5 27 ?_
      refine pv HT_ 6 28 ?_
      refine tw13 HT_ HW_ 0 22 ?_
      refine tw13 HT_ HW_ 4 26 ?_
      refine ov HT_ 3 25 (fun K hK => ?_)
      refine goes_ Tryd.func5 (by kernel_rfl) rfl #[.agg #[.slice A0_0 l0_0.length c0_0, .slice A0_1 l0_1.length c0_1, .int .i64 a0_2, .int .i64 a0_3, .int .i64 a0_4, .int .i64 a0_5, .int .i64 a0_6, .int .i64 a0_7, .int .i64 a0_8, .int .i64 a0_9, .int .i64 a0_10, .int .i64 a0_11, .int .i64 a0_12], .int .i64 a1, .int .i64 a2] (by rfl) rfl rfl lm ?_
      with_reducible refine (hops_Dist.calls kj3 _ _ l0_0 _ _ l0_1 a0_2 a0_3 a0_4 a0_5 a0_6 a0_7 a0_8 a0_9 a0_10 a0_11 a0_12 a1 a2 t219 _ ?side1 ?side2 ?side3 ?side4 A17.out (Gv.below (k := 0) HG.out (bl1 GE216))).mono ?_
      (case side1 => exact kc HR0_0)
      (case side2 => exact HC0_0.out)
      (case side3 => exact kc HR0_1)
      (case side4 => exact HC0_1.out)
      rintro e w50 ⟨rfl, hb⟩
      refine ⟨_, rfl, ?_⟩
      have n0_ := am (blk_below (bk BK216) hb)
      have n1_ := am (below_step (bl1 GE216) hb)
      clear BK216
      clear HB
      have BK216 := n0_
      have HB := n1_
      clear n0_ n1_
      (try clear hb)
      (try clear hb2)
      (try clear hk)
      (try clear hi)
      refine hK.out _ _ (cellsK13 BK216.out) (fun hHeld => ?_)
      clear hK K
      refine norm_ (a' := ?_) ?_ ?_
      rotate_left
      ·show Act.put _ (some 25) _ = _
       simp only [Act.put, sAa, sBb, sCc, i64_w, i32_w]
       rfl
      refine ov HT_ 7 29 (fun K hK => ?_)
      refine goes_ Tryd.func6 (by kernel_rfl) rfl #[.agg #[.slice A0_0 l0_0.length c0_0, .slice A0_1 l0_1.length c0_1, .int .i64 a0_2, .int .i64 a0_3, .int .i64 a0_4, .int .i64 a0_5, .int .i64 a0_6, .int .i64 a0_7, .int .i64 a0_8, .int .i64 a0_9, .int .i64 a0_10, .int .i64 a0_11, .int .i64 a0_12], .int .i64 a1, .int .i64 a2] (by rfl) rfl rfl lm ?_
      with_reducible refine (dr5_Dist.calls kj3 _ _ l0_0 _ _ l0_1 a0_2 a0_3 a0_4 a0_5 a0_6 a0_7 a0_8 a0_9 a0_10 a0_11 a0_12 a1 a2 t220 _ ?side1 ?side2 ?side3 ?side4 A18.out).mono ?_
      (case side1 => exact kc HR0_0)
      (case side2 => exact HC0_0.out)
      (case side3 => exact kc HR0_1)
      (case side4 => exact HC0_1.out)
      rintro e w51 ⟨rfl, hb⟩
      refine ⟨_, rfl, ?_⟩
      have n0_ := am (blk_below (bk BK216) hb)
      have n1_ := am (below_step (bl1 GE216) hb)
      clear BK216
      clear HB
      have BK216 := n0_
      have HB := n1_
      clear n0_ n1_
      (try clear hb)
      (try clear hb2)
      (try clear hk)
      (try clear hi)
      refine hK.out _ _ (cellsK13 BK216.out) (fun hHeld => ?_)
      clear hK K
      refine norm_ (a' := ?_) ?_ ?_
      rotate_left
      ·show Act.put _ (some 29) _ = _
       simp only [Act.put, sAa, sBb, sCc, i64_w, i32_w]
       rfl
      refine pv HT_ 8 30 ?_
      refine pv HT_ 9 31 ?_
      refine pv HT_ 11 33 ?_
      refine pv HT_ 12 34 ?_
      refine pv HT_ 15 37 ?_
      refine pv HT_ 16 38 ?_
      refine tw13 HT_ HW_ 10 32 ?_
      refine tw13 HT_ HW_ 14 36 ?_
      refine ov HT_ 13 35 (fun K hK => ?_)
      refine goes_ Tryd.func7 (by kernel_rfl) rfl #[.agg #[.slice A0_0 l0_0.length c0_0, .slice A0_1 l0_1.length c0_1, .int .i64 a0_2, .int .i64 a0_3, .int .i64 a0_4, .int .i64 a0_5, .int .i64 a0_6, .int .i64 a0_7, .int .i64 a0_8, .int .i64 a0_9, .int .i64 a0_10, .int .i64 a0_11, .int .i64 a0_12], .int .i64 a1, .int .i64 a2] (by rfl) rfl rfl lm ?_
      with_reducible refine (hops_Next.calls _ _ l0_0 _ _ l0_1 a0_2 a0_3 a0_4 a0_5 a0_6 a0_7 a0_8 a0_9 a0_10 a0_11 a0_12 a1 a2 t221 _ ?side1 ?side2 ?side3 ?side4 A20.out (Gv.below (k := 0) HG.out (bl1 GE216))).mono ?_
      (case side1 => exact kc HR0_0)
      (case side2 => exact HC0_0.out)
      (case side3 => exact kc HR0_1)
      (case side4 => exact HC0_1.out)
      rintro e w52 ⟨rfl, hb⟩
      refine ⟨_, rfl, ?_⟩
      have n0_ := am (blk_below (bk BK216) hb)
      have n1_ := am (below_step (bl1 GE216) hb)
      clear BK216
      clear HB
      have BK216 := n0_
      have HB := n1_
      clear n0_ n1_
      (try clear hb)
      (try clear hb2)
      (try clear hk)
      (try clear hi)
      refine hK.out _ _ (cellsK13 BK216.out) (fun hHeld => ?_)
      clear hK K
      refine norm_ (a' := ?_) ?_ ?_
      rotate_left
      ·show Act.put _ (some 35) _ = _
       simp only [Act.put, sAa, sBb, sCc, i64_w, i32_w]
       rfl
      refine ov HT_ 17 39 (fun K hK => ?_)
      refine goes_ Tryd.func8 (by kernel_rfl) rfl #[.agg #[.slice A0_0 l0_0.length c0_0, .slice A0_1 l0_1.length c0_1, .int .i64 a0_2, .int .i64 a0_3, .int .i64 a0_4, .int .i64 a0_5, .int .i64 a0_6, .int .i64 a0_7, .int .i64 a0_8, .int .i64 a0_9, .int .i64 a0_10, .int .i64 a0_11, .int .i64 a0_12], .int .i64 a1, .int .i64 a2] (by rfl) rfl rfl lm ?_
      with_reducible refine (dr5_Next.calls kj3 _ _ l0_0 _ _ l0_1 a0_2 a0_3 a0_4 a0_5 a0_6 a0_7 a0_8 a0_9 a0_10 a0_11 a0_12 a1 a2 t222 _ ?side1 ?side2 ?side3 ?side4 A21.out).mono ?_
      (case side1 => exact kc HR0_0)
      (case side2 => exact HC0_0.out)
      (case side3 => exact kc HR0_1)
      (case side4 => exact HC0_1.out)
      rintro e w53 ⟨rfl, hb⟩
      refine ⟨_, rfl, ?_⟩
      have n0_ := am (blk_below (bk BK216) hb)
      have n1_ := am (below_step (bl1 GE216) hb)
      clear BK216
      clear HB
      have BK216 := n0_
      have HB := n1_
      clear n0_ n1_
      (try clear hb)
      (try clear hb2)
      (try clear hk)
      (try clear hi)
      refine hK.out _ _ (cellsK13 BK216.out) (fun hHeld => ?_)
      clear hK K
      refine norm_ (a' := ?_) ?_ ?_
      rotate_left
      ·show Act.put _ (some 39) _ = _
       simp only [Act.put, sAa, sBb, sCc, i64_w, i32_w]
       rfl
      refine pv HT_ 18 40 ?_
      refine pv HT_ 19 41 ?_
      refine pv HT_ 20 42 ?_
      refine pure_ (i := 21) (N := some 43) (v := undef) (a' := ?_) #[true, true, true, true, true, true, true, true, true, true, true, true, true, true, true, true, true, true, true, true, true, true, false, false, false, false, false, false, false, false, false, false, false, false, false, false, false, false, false] rfl rfl (any_of HT_.out (by kernel_rfl)) (fun _ _ _ h => h) (Or.inr ⟨by rfl, rfl⟩) ?_ ?_
      rotate_left
      ·simp only [Act.put, sAa, sBb, sCc, i64_w, i32_w]
       rfl
      refine pure_ (i := 22) (N := some 44) (v := undef) (a' := ?_) #[true, true, true, true, true, true, true, true, true, true, true, true, true, true, true, true, true, true, true, true, true, true, true, false, false, false, false, false, false, false, false, false, false, false, false, false, false, false, false] rfl rfl (any_of HT_.out (by kernel_rfl)) (fun _ _ _ h => h) (Or.inr ⟨by rfl, rfl⟩) ?_ ?_
      rotate_left
      ·simp only [Act.put, sAa, sBb, sCc, i64_w, i32_w]
       rfl
      refine pure_ (i := 23) (N := some 45) (v := undef) (a' := ?_) #[true, true, true, true, true, true, true, true, true, true, true, true, true, true, true, true, true, true, true, true, true, true, true, true, false, false, false, false, false, false, false, false, false, false, false, false, false, false, false] rfl rfl (any_of HT_.out (by kernel_rfl)) (fun _ _ _ h => h) (Or.inr ⟨by rfl, rfl⟩) ?_ ?_
      rotate_left
      ·simp only [Act.put, sAa, sBb, sCc, i64_w, i32_w]
       rfl
      refine pure_ (i := 24) (N := some 46) (v := undef) (a' := ?_) #[true, true, true, true, true, true, true, true, true, true, true, true, true, true, true, true, true, true, true, true, true, true, true, true, true, false, false, false, false, false, false, false, false, false, false, false, false, false, false] rfl rfl (any_of HT_.out (by kernel_rfl)) (fun _ _ _ h => h) (Or.inr ⟨by rfl, rfl⟩) ?_ ?_
      rotate_left
      ·simp only [Act.put, sAa, sBb, sCc, i64_w, i32_w]
       rfl
      refine pure_ (i := 25) (N := some 47) (v := undef) (a' := ?_) #[true, true, true, true, true, true, true, true, true, true, true, true, true, true, true, true, true, true, true, true, true, true, true, true, true, true, false, false, false, false, false, false, false, false, false, false, false, false, false] rfl rfl (any_of HT_.out (by kernel_rfl)) (fun _ _ _ h => h) (Or.inr ⟨by rfl, rfl⟩) ?_ ?_
      rotate_left
      ·simp only [Act.put, sAa, sBb, sCc, i64_w, i32_w]
       rfl
      refine pure_ (i := 26) (N := some 48) (v := undef) (a' := ?_) #[true, true, true, true, true, true, true, true, true, true, true, true, true, true, true, true, true, true, true, true, true, true, true, true, true, true, true, false, false, false, false, false, false, false, false, false, false, false, false] rfl rfl (any_of HT_.out (by kernel_rfl)) (fun _ _ _ h => h) (Or.inr ⟨by rfl, rfl⟩) ?_ ?_
      rotate_left
      ·simp only [Act.put, sAa, sBb, sCc, i64_w, i32_w]
       rfl
      refine pure_ (i := 27) (N := some 49) (v := undef) (a' := ?_) #[true, true, true, true, true, true, true, true, true, true, true, true, true, true, true, true, true, true, true, true, true, true, true, true, true, true, true, true, false, false, false, false, false, false, false, false, false, false, false] rfl rfl (any_of HT_.out (by kernel_rfl)) (fun _ _ _ h => h) (Or.inr ⟨by rfl, rfl⟩) ?_ ?_
      rotate_left
      ·simp only [Act.put, sAa, sBb, sCc, i64_w, i32_w]
       rfl
      refine pure_ (i := 28) (N := some 50) (v := undef) (a' := ?_) #[true, true, true, true, true, true, true, true, true, true, true, true, true, true, true, true, true, true, true, true, true, true, true, true, true, true, true, true, true, false, false, false, false, false, false, false, false, false, false] rfl rfl (any_of HT_.out (by kernel_rfl)) (fun _ _ _ h => h) (Or.inr ⟨by rfl, rfl⟩) ?_ ?_
      rotate_left
      ·simp only [Act.put, sAa, sBb, sCc, i64_w, i32_w]
       rfl
      refine pure_ (i := 29) (N := some 51) (v := undef) (a' := ?_) #[true, true, true, true, true, true, true, true, true, true, true, true, true, true, true, true, true, true, true, true, true, true, true, true, true, true, true, true, true, true, false, false, false, false, false, false, false, false, false] rfl rfl (any_of HT_.out (by kernel_rfl)) (fun _ _ _ h => h) (Or.inr ⟨by rfl, rfl⟩) ?_ ?_
      rotate_left
      ·simp only [Act.put, sAa, sBb, sCc, i64_w, i32_w]
       rfl
      refine pv HT_ 30 52 ?_
      refine pv HT_ 31 53 ?_
      refine pure_ (i := 32) (N := some 54) (v := undef) (a' := ?_) #[true, true, true, true, true, true, true, true, true, true, true, true, true, true, true, true, true, true, true, true, true, true, true, true, true, true, true, true, true, true, true, true, true, false, false, false, false, false, false] rfl rfl (any_of HT_.out (by kernel_rfl)) (fun _ _ _ h => h) (Or.inr ⟨by rfl, rfl⟩) ?_ ?_
      rotate_left
      ·simp only [Act.put, sAa, sBb, sCc, i64_w, i32_w]
       rfl
      refine pure_ (i := 33) (N := some 55) (v := undef) (a' := ?_) #[true, true, true, true, true, true, true, true, true, true, true, true, true, true, true, true, true, true, true, true, true, true, true, true, true, true, true, true, true, true, true, true, true, true, false, false, false, false, false] rfl rfl (any_of HT_.out (by kernel_rfl)) (fun _ _ _ h => h) (Or.inr ⟨by rfl, rfl⟩) ?_ ?_
      rotate_left
      ·simp only [Act.put, sAa, sBb, sCc, i64_w, i32_w]
       rfl
      refine pure_ (i := 34) (N := some 56) (v := undef) (a' := ?_) #[true, true, true, true, true, true, true, true, true, true, true, true, true, true, true, true, true, true, true, true, true, true, true, true, true, true, true, true, true, true, true, true, true, true, true, false, false, false, false] rfl rfl (any_of HT_.out (by kernel_rfl)) (fun _ _ _ h => h) (Or.inr ⟨by rfl, rfl⟩) ?_ ?_
      rotate_left
      ·simp only [Act.put, sAa, sBb, sCc, i64_w, i32_w]
       rfl
      refine pure_ (i := 35) (N := some 57) (v := undef) (a' := ?_) #[true, true, true, true, true, true, true, true, true, true, true, true, true, true, true, true, true, true, true, true, true, true, true, true, true, true, true, true, true, true, true, true, true, true, true, true, false, false, false] rfl rfl (any_of HT_.out (by kernel_rfl)) (fun _ _ _ h => h) (Or.inr ⟨by rfl, rfl⟩) ?_ ?_
      rotate_left
      ·simp only [Act.put, sAa, sBb, sCc, i64_w, i32_w]
       rfl
      refine pure_ (i := 36) (N := some 58) (v := undef) (a' := ?_) #[true, true, true, true, true, true, true, true, true, true, true, true, true, true, true, true, true, true, true, true, true, true, true, true, true, true, true, true, true, true, true, true, true, true, true, true, true, false, false] rfl rfl (any_of HT_.out (by kernel_rfl)) (fun _ _ _ h => h) (Or.inr ⟨by rfl, rfl⟩) ?_ ?_
      rotate_left
      ·simp only [Act.put, sAa, sBb, sCc, i64_w, i32_w]
       rfl
      refine pv HT_ 37 59 ?_
      refine pv HT_ 38 6 ?_
      refine done_ (done_of HT_.out (by kernel_rfl)) ?_
      try go_wp2
      go_ret
      exact ⟨ew, bl1 GE216⟩
    ·rw [if_neg c19] at H
     have c19b0 : (t219 == t220) = false := beq_eq_false_iff_ne.mpr c19
     have c19b1 : (t219 != t220) = true := bne_iff_ne.mpr c19
     obtain rfl := Option.some.inj H
     try go_wp2
     have n0_ := am (blk_drew BK216.out)
     have n1_ := am (below_drew1 HB.out)
     clear BK216
     clear HB
     have BK216 := n0_
     have HB := n1_
     clear n0_ n1_
     refine start_ (n := 39) (S := fun w' => w'.cell? ⟨gb216, 0, none⟩ = some (.slice A0_0 l0_0.length c0_0) ∧ w'.cell? ⟨gb216, 1, none⟩ = some (.slice A0_1 l0_1.length c0_1) ∧ w'.cell? ⟨gb216, 2, none⟩ = some (.int .i64 a0_2) ∧ w'.cell? ⟨gb216, 3, none⟩ = some (.int .i64 a0_3) ∧ w'.cell? ⟨gb216, 4, none⟩ = some (.int .i64 a0_4) ∧ w'.cell? ⟨gb216, 5, none⟩ = some (.int .i64 a0_5) ∧ w'.cell? ⟨gb216, 6, none⟩ = some (.int .i64 a0_6) ∧ w'.cell? ⟨gb216, 7, none⟩ = some (.int .i64 a0_7) ∧ w'.cell? ⟨gb216, 8, none⟩ = some (.int .i64 a0_8) ∧ w'.cell? ⟨gb216, 9, none⟩ = some (.int .i64 a0_9) ∧ w'.cell? ⟨gb216, 10, none⟩ = some (.int .i64 a0_10) ∧ w'.cell? ⟨gb216, 11, none⟩ = some (.int .i64 a0_11) ∧ w'.cell? ⟨gb216, 12, none⟩ = some (.int .i64 a0_12)) (ds := []) #[false, false, false, false, false, false, false, false, false, false, false, false, false, false, false, false, false, false, false, false, false, false, false, false, false, false, false, false, false, false, false, false, false, false, false, false, false, false, false] (by kernel_rfl) rfl rfl (cellsK13 BK216.out) (fun hHeld => ?_); refine with_tabW dl6_HopsTells.tab3 dl6_HopsTells.bits3 (fun HT_ HW_ => ?_)
     generalize wc.drew = w54 at BK216 HB hHeld ⊢
     refine pv HT_ 1 23 ?_
     refine pv HT_ 2 24 ?_
     refine pv HT_ 5 27 ?_
     refine pv HT_ 6 28 ?_
     refine tw13 HT_ HW_ 0 22 ?_
     refine tw13 HT_ HW_ 4 26 ?_
     refine ov HT_ 3 25 (fun K hK => ?_)
     refine goes_ Tryd.func5 (by kernel_rfl) rfl #[.agg #[.slice A0_0 l0_0.length c0_0, .slice A0_1 l0_1.length c0_1, .int .i64 a0_2, .int .i64 a0_3, .int .i64 a0_4, .int .i64 a0_5, .int .i64 a0_6, .int .i64 a0_7, .int .i64 a0_8, .int .i64 a0_9, .int .i64 a0_10, .int .i64 a0_11, .int .i64 a0_12], .int .i64 a1, .int .i64 a2] (by rfl) rfl rfl lm ?_
     with_reducible refine (hops_Dist.calls kj3 _ _ l0_0 _ _ l0_1 a0_2 a0_3 a0_4 a0_5 a0_6 a0_7 a0_8 a0_9 a0_10 a0_11 a0_12 a1 a2 t219 _ ?side1 ?side2 ?side3 ?side4 A17.out (Gv.below (k := 0) HG.out (bl1 GE216))).mono ?_
     (case side1 => exact kc HR0_0)
     (case side2 => exact HC0_0.out)
     (case side3 => exact kc HR0_1)
     (case side4 => exact HC0_1.out)
     rintro e w55 ⟨rfl, hb⟩
     refine ⟨_, rfl, ?_⟩
     have n0_ := am (blk_below (bk BK216) hb)
     have n1_ := am (below_step (bl1 GE216) hb)
     clear BK216
     clear HB
     have BK216 := n0_
     have HB := n1_
     clear n0_ n1_
     (try clear hb)
     (try clear hb2)
     (try clear hk)
     (try clear hi)
     refine hK.out _ _ (cellsK13 BK216.out) (fun hHeld => ?_)
     clear hK K
     refine norm_ (a' := ?_) ?_ ?_
     rotate_left
     ·show Act.put _ (some 25) _ = _
      simp only [Act.put, sAa, sBb, sCc, i64_w, i32_w]
      rfl
     refine ov HT_ 7 29 (fun K hK => ?_)
     refine goes_ Tryd.func6 (by kernel_rfl) rfl #[.agg #[.slice A0_0 l0_0.length c0_0, .slice A0_1 l0_1.length c0_1, .int .i64 a0_2, .int .i64 a0_3, .int .i64 a0_4, .int .i64 a0_5, .int .i64 a0_6, .int .i64 a0_7, .int .i64 a0_8, .int .i64 a0_9, .int .i64 a0_10, .int .i64 a0_11, .int .i64 a0_12], .int .i64 a1, .int .i64 a2] (by rfl) rfl rfl lm ?_
     with_reducible refine (dr5_Dist.calls kj3 _ _ l0_0 _ _ l0_1 a0_2 a0_3 a0_4 a0_5 a0_6 a0_7 a0_8 a0_9 a0_10 a0_11 a0_12 a1 a2 t220 _ ?side1 ?side2 ?side3 ?side4 A18.out).mono ?_
     (case side1 => exact kc HR0_0)
     (case side2 => exact HC0_0.out)
     (case side3 => exact kc HR0_1)
     (case side4 => exact HC0_1.out)
     rintro e w56 ⟨rfl, hb⟩
     refine ⟨_, rfl, ?_⟩
     have n0_ := am (blk_below (bk BK216) hb)
     have n1_ := am (below_step (bl1 GE216) hb)
     clear BK216
     clear HB
     have BK216 := n0_
     have HB := n1_
     clear n0_ n1_
     (try clear hb)
     (try clear hb2)
     (try clear hk)
     (try clear hi)
     refine hK.out _ _ (cellsK13 BK216.out) (fun hHeld => ?_)
     clear hK K
     refine norm_ (a' := ?_) ?_ ?_
     rotate_left
     ·show Act.put _ (some 29) _ = _
      simp only [Act.put, sAa, sBb, sCc, i64_w, i32_w]
      rfl
     refine pv HT_ 8 30 ?_
     refine pv HT_ 9 31 ?_
     refine pure_ (i := 10) (N := some 32) (v := undef) (a' := ?_) #[true, true, true, true, true, true, true, true, true, true, true, false, false, false, false, false, false, false, false, false, false, false, false, false, false, false, false, false, false, false, false, false, false, false, false, false, false, false, false] rfl rfl (any_of HT_.out (by kernel_rfl)) (fun _ _ _ h => h) (Or.inr ⟨by rfl, rfl⟩) ?_ ?_
     rotate_left
     ·simp only [Act.put, sAa, sBb, sCc, i64_w, i32_w]
      rfl
     refine pure_ (i := 11) (N := some 33) (v := undef) (a' := ?_) #[true, true, true, true, true, true, true, true, true, true, true, true, false, false, false, false, false, false, false, false, false, false, false, false, false, false, false, false, false, false, false, false, false, false, false, false, false, false, false] rfl rfl (any_of HT_.out (by kernel_rfl)) (fun _ _ _ h => h) (Or.inr ⟨by rfl, rfl⟩) ?_ ?_
     rotate_left
     ·simp only [Act.put, sAa, sBb, sCc, i64_w, i32_w]
      rfl
     refine pure_ (i := 12) (N := some 34) (v := undef) (a' := ?_) #[true, true, true, true, true, true, true, true, true, true, true, true, true, false, false, false, false, false, false, false, false, false, false, false, false, false, false, false, false, false, false, false, false, false, false, false, false, false, false] rfl rfl (any_of HT_.out (by kernel_rfl)) (fun _ _ _ h => h) (Or.inr ⟨by rfl, rfl⟩) ?_ ?_
     rotate_left
     ·simp only [Act.put, sAa, sBb, sCc, i64_w, i32_w]
      rfl
     refine pure_ (i := 13) (N := some 35) (v := undef) (a' := ?_) #[true, true, true, true, true, true, true, true, true, true, true, true, true, true, false, false, false, false, false, false, false, false, false, false, false, false, false, false, false, false, false, false, false, false, false, false, false, false, false] rfl rfl (any_of HT_.out (by kernel_rfl)) (fun _ _ _ h => h) (Or.inr ⟨by rfl, rfl⟩) ?_ ?_
     rotate_left
     ·simp only [Act.put, sAa, sBb, sCc, i64_w, i32_w]
      rfl
     refine pure_ (i := 14) (N := some 36) (v := undef) (a' := ?_) #[true, true, true, true, true, true, true, true, true, true, true, true, true, true, true, false, false, false, false, false, false, false, false, false, false, false, false, false, false, false, false, false, false, false, false, false, false, false, false] rfl rfl (any_of HT_.out (by kernel_rfl)) (fun _ _ _ h => h) (Or.inr ⟨by rfl, rfl⟩) ?_ ?_
     rotate_left
     ·simp only [Act.put, sAa, sBb, sCc, i64_w, i32_w]
      rfl
     refine pure_ (i := 15) (N := some 37) (v := undef) (a' := ?_) #[true, true, true, true, true, true, true, true, true, true, true, true, true, true, true, true, false, false, false, false, false, false, false, false, false, false, false, false, false, false, false, false, false, false, false, false, false, false, false] rfl rfl (any_of HT_.out (by kernel_rfl)) (fun _ _ _ h => h) (Or.inr ⟨by rfl, rfl⟩) ?_ ?_
     rotate_left
     ·simp only [Act.put, sAa, sBb, sCc, i64_w, i32_w]
      rfl
     refine pure_ (i := 16) (N := some 38) (v := undef) (a' := ?_) #[true, true, true, true, true, true, true, true, true, true, true, true, true, true, true, true, true, false, false, false, false, false, false, false, false, false, false, false, false, false, false, false, false, false, false, false, false, false, false] rfl rfl (any_of HT_.out (by kernel_rfl)) (fun _ _ _ h => h) (Or.inr ⟨by rfl, rfl⟩) ?_ ?_
     rotate_left
     ·simp only [Act.put, sAa, sBb, sCc, i64_w, i32_w]
      rfl
     refine pure_ (i := 17) (N := some 39) (v := undef) (a' := ?_) #[true, true, true, true, true, true, true, true, true, true, true, true, true, true, true, true, true, true, false, false, false, false, false, false, false, false, false, false, false, false, false, false, false, false, false, false, false, false, false] rfl rfl (any_of HT_.out (by kernel_rfl)) (fun _ _ _ h => h) (Or.inr ⟨by rfl, rfl⟩) ?_ ?_
     rotate_left
     ·simp only [Act.put, sAa, sBb, sCc, i64_w, i32_w]
      rfl
     refine pure_ (i := 18) (N := some 40) (v := undef) (a' := ?_) #[true, true, true, true, true, true, true, true, true, true, true, true, true, true, true, true, true, true, true, false, false, false, false, false, false, false, false, false, false, false, false, false, false, false, false, false, false, false, false] rfl rfl (any_of HT_.out (by kernel_rfl)) (fun _ _ _ h => h) (Or.inr ⟨by rfl, rfl⟩) ?_ ?_
     rotate_left
     ·simp only [Act.put, sAa, sBb, sCc, i64_w, i32_w]
      rfl
     refine pv HT_ 19 41 ?_
     refine pv HT_ 20 42 ?_
     refine pure_ (i := 21) (N := some 43) (v := undef) (a' := ?_) #[true, true, true, true, true, true, true, true, true, true, true, true, true, true, true, true, true, true, true, true, true, true, false, false, false, false, false, false, false, false, false, false, false, false, false, false, false, false, false] rfl rfl (any_of HT_.out (by kernel_rfl)) (fun _ _ _ h => h) (Or.inr ⟨by rfl, rfl⟩) ?_ ?_
     rotate_left
     ·simp only [Act.put, sAa, sBb, sCc, i64_w, i32_w]
      rfl
     refine pure_ (i := 22) (N := some 44) (v := undef) (a' := ?_) #[true, true, true, true, true, true, true, true, true, true, true, true, true, true, true, true, true, true, true, true, true, true, true, false, false, false, false, false, false, false, false, false, false, false, false, false, false, false, false] rfl rfl (any_of HT_.out (by kernel_rfl)) (fun _ _ _ h => h) (Or.inr ⟨by rfl, rfl⟩) ?_ ?_
     rotate_left
     ·simp only [Act.put, sAa, sBb, sCc, i64_w, i32_w]
      rfl
     refine pure_ (i := 23) (N := some 45) (v := undef) (a' := ?_) #[true, true, true, true, true, true, true, true, true, true, true, true, true, true, true, true, true, true, true, true, true, true, true, true, false, false, false, false, false, false, false, false, false, false, false, false, false, false, false] rfl rfl (any_of HT_.out (by kernel_rfl)) (fun _ _ _ h => h) (Or.inr ⟨by rfl, rfl⟩) ?_ ?_
     rotate_left
     ·simp only [Act.put, sAa, sBb, sCc, i64_w, i32_w]
      rfl
     refine pure_ (i := 24) (N := some 46) (v := undef) (a' := ?_) #[true, true, true, true, true, true, true, true, true, true, true, true, true, true, true, true, true, true, true, true, true, true, true, true, true, false, false, false, false, false, false, false, false, false, false, false, false, false, false] rfl rfl (any_of HT_.out (by kernel_rfl)) (fun _ _ _ h => h) (Or.inr ⟨by rfl, rfl⟩) ?_ ?_
     rotate_left
     ·simp only [Act.put, sAa, sBb, sCc, i64_w, i32_w]
      rfl
     refine pure_ (i := 25) (N := some 47) (v := undef) (a' := ?_) #[true, true, true, true, true, true, true, true, true, true, true, true, true, true, true, true, true, true, true, true, true, true, true, true, true, true, false, false, false, false, false, false, false, false, false, false, false, false, false] rfl rfl (any_of HT_.out (by kernel_rfl)) (fun _ _ _ h => h) (Or.inr ⟨by rfl, rfl⟩) ?_ ?_
     rotate_left
     ·simp only [Act.put, sAa, sBb, sCc, i64_w, i32_w]
      rfl
     refine pure_ (i := 26) (N := some 48) (v := undef) (a' := ?_) #[true, true, true, true, true, true, true, true, true, true, true, true, true, true, true, true, true, true, true, true, true, true, true, true, true, true, true, false, false, false, false, false, false, false, false, false, false, false, false] rfl rfl (any_of HT_.out (by kernel_rfl)) (fun _ _ _ h => h) (Or.inr ⟨by rfl, rfl⟩) ?_ ?_
     rotate_left
     ·simp only [Act.put, sAa, sBb, sCc, i64_w, i32_w]
      rfl
     refine pure_ (i := 27) (N := some 49) (v := undef) (a' := ?_) #[true, true, true, true, true, true, true, true, true, true, true, true, true, true, true, true, true, true, true, true, true, true, true, true, true, true, true, true, false, false, false, false, false, false, false, false, false, false, false] rfl rfl (any_of HT_.out (by kernel_rfl)) (fun _ _ _ h => h) (Or.inr ⟨by rfl, rfl⟩) ?_ ?_
     rotate_left
     ·simp only [Act.put, sAa, sBb, sCc, i64_w, i32_w]
      rfl
     refine pure_ (i := 28) (N := some 50) (v := undef) (a' := ?_) #[true, true, true, true, true, true, true, true, true, true, true, true, true, true, true, true, true, true, true, true, true, true, true, true, true, true, true, true, true, false, false, false, false, false, false, false, false, false, false] rfl rfl (any_of HT_.out (by kernel_rfl)) (fun _ _ _ h => h) (Or.inr ⟨by rfl, rfl⟩) ?_ ?_
     rotate_left
     ·simp only [Act.put, sAa, sBb, sCc, i64_w, i32_w]
      rfl
     refine pure_ (i := 29) (N := some 51) (v := undef) (a' := ?_) #[true, true, true, true, true, true, true, true, true, true, true, true, true, true, true, true, true, true, true, true, true, true, true, true, true, true, true, true, true, true, false, false, false, false, false, false, false, false, false] rfl rfl (any_of HT_.out (by kernel_rfl)) (fun _ _ _ h => h) (Or.inr ⟨by rfl, rfl⟩) ?_ ?_
     rotate_left
     ·simp only [Act.put, sAa, sBb, sCc, i64_w, i32_w]
      rfl
     refine pv HT_ 30 52 ?_
     refine pv HT_ 31 53 ?_
     refine pure_ (i := 32) (N := some 54) (v := undef) (a' := ?_) #[true, true, true, true, true, true, true, true, true, true, true, true, true, true, true, true, true, true, true, true, true, true, true, true, true, true, true, true, true, true, true, true, true, false, false, false, false, false, false] rfl rfl (any_of HT_.out (by kernel_rfl)) (fun _ _ _ h => h) (Or.inr ⟨by rfl, rfl⟩) ?_ ?_
     rotate_left
     ·simp only [Act.put, sAa, sBb, sCc, i64_w, i32_w]
      rfl
     refine pure_ (i := 33) (N := some 55) (v := undef) (a' := ?_) #[true, true, true, true, true, true, true, true, true, true, true, true, true, true, true, true, true, true, true, true, true, true, true, true, true, true, true, true, true, true, true, true, true, true, false, false, false, false, false] rfl rfl (any_of HT_.out (by kernel_rfl)) (fun _ _ _ h => h) (Or.inr ⟨by rfl, rfl⟩) ?_ ?_
     rotate_left
     ·simp only [Act.put, sAa, sBb, sCc, i64_w, i32_w]
      rfl
     refine pure_ (i := 34) (N := some 56) (v := undef) (a' := ?_) #[true, true, true, true, true, true, true, true, true, true, true, true, true, true, true, true, true, true, true, true, true, true, true, true, true, true, true, true, true, true, true, true, true, true, true, false, false, false, false] rfl rfl (any_of HT_.out (by kernel_rfl)) (fun _ _ _ h => h) (Or.inr ⟨by rfl, rfl⟩) ?_ ?_
     rotate_left
     ·simp only [Act.put, sAa, sBb, sCc, i64_w, i32_w]
      rfl
     refine pure_ (i := 35) (N := some 57) (v := undef) (a' := ?_) #[true, true, true, true, true, true, true, true, true, true, true, true, true, true, true, true, true, true, true, true, true, true, true, true, true, true, true, true, true, true, true, true, true, true, true, true, false, false, false] rfl rfl (any_of HT_.out (by kernel_rfl)) (fun _ _ _ h => h) (Or.inr ⟨by rfl, rfl⟩) ?_ ?_
     rotate_left
     ·simp only [Act.put, sAa, sBb, sCc, i64_w, i32_w]
      rfl
     refine pure_ (i := 36) (N := some 58) (v := undef) (a' := ?_) #[true, true, true, true, true, true, true, true, true, true, true, true, true, true, true, true, true, true, true, true, true, true, true, true, true, true, true, true, true, true, true, true, true, true, true, true, true, false, false] rfl rfl (any_of HT_.out (by kernel_rfl)) (fun _ _ _ h => h) (Or.inr ⟨by rfl, rfl⟩) ?_ ?_
     rotate_left
     ·simp only [Act.put, sAa, sBb, sCc, i64_w, i32_w]
      rfl
     refine pv HT_ 37 59 ?_
     refine pv HT_ 38 6 ?_
     refine done_ (done_of HT_.out (by kernel_rfl)) ?_
     try go_wp2
     go_ret
     exact ⟨ew, bl1 GE216⟩
end Go.Proofs.YtbefbhghmommhaaDoor.MWo
