/- Texts of this claim, laid together by a program (wip/g/merge5.py): MWox48. -/
import Derived.Test.YtbefbhghmommhaaDoorZHz4
import Derived.Test.YtbefbhghmommhaaDoorZHz10
import Derived.Test.YtbefbhghmommhaaDoorZHz16
namespace Go.Proofs.YtbefbhghmommhaaDoor.MWo
open Go.RowKit Go.Proofs.YtbefbhghmommhaaDoorW.PrintWords Go.Proofs.YtbefbhghmommhaaDoorW.PrintLast Go.Proofs.YtbefbhghmommhaaDoorW.PrintMore
attribute [local go_sem] mp_u32s mp_u32m mp_u8s mp_u8m max2_int min2_int max_two min_two max_three min_three max_four min_four
set_option linter.unusedVariables false
set_option linter.unusedSimpArgs false
mutual
def dr5_Next.j0 : Nat → Int → Int → Bool → List (S43) → List (S39) → Int → Int → Int → Int → Int → Int → Int → Int → Int → Int → Int → Option (Int)
 | 0, _, _, _, _, _, _, _, _, _, _, _, _, _, _, _, _ => none
 | k + 1, x1, x2, x24, x190000, x190001, x190002, x190003, x190004, x190005, x190006, x190007, x190008, x190009, x190010, x190011, x190012 => if x24 = true then (some (-1)) else ((dr5_dists.f k x190000 x190001 x190002 x190003 x190004 x190005 x190006 x190007 x190008 x190009 x190010 x190011 x190012 x2).bind fun t192 => (dr5_Next.l0 k x1 t192 0 x190000 x190001 x190002 x190003 x190004 x190005 x190006 x190007 x190008 x190009 x190010 x190011 x190012))
def dr5_Next.l0 : Nat → Int → List Int → Int → List (S43) → List (S39) → Int → Int → Int → Int → Int → Int → Int → Int → Int → Int → Int → Option (Int)
 | 0, _, _, _, _, _, _, _, _, _, _, _, _, _, _, _, _ => none
 | k + 1, x1, x7, x8, x190000, x190001, x190002, x190003, x190004, x190005, x190006, x190007, x190008, x190009, x190010, x190011, x190012 => if x8 < (x190001.length : Int) then (if 0 ≤ x8 then ((dr5_other.f ((rd_T39 x190001 x8).f0) ((rd_T39 x190001 x8).f1) ((rd_T39 x190001 x8).f2.f0) ((rd_T39 x190001 x8).f2.f1) ((rd_T39 x190001 x8).f3.f0) ((rd_T39 x190001 x8).f3.f1) x1).bind fun t196 => (if t196 ≥ 0 then (if 0 ≤ t196 then (if t196 < (x7.length : Int) then (if 0 ≤ x1 then (if x1 < (x7.length : Int) then (if (rd x7 t196) < (rd x7 x1) then (some x8) else (dr5_Next.l0 k x1 x7 (wrap64 (x8 + 1)) x190000 x190001 x190002 x190003 x190004 x190005 x190006 x190007 x190008 x190009 x190010 x190011 x190012)) else (none)) else (none)) else (none)) else (none)) else (dr5_Next.l0 k x1 x7 (wrap64 (x8 + 1)) x190000 x190001 x190002 x190003 x190004 x190005 x190006 x190007 x190008 x190009 x190010 x190011 x190012))) else (none)) else (some (-1))
end
def dr5_Next.f (k : Nat) (l0_0 : List (S43)) (l0_1 : List (S39)) (a0_2 : Int) (a0_3 : Int) (a0_4 : Int) (a0_5 : Int) (a0_6 : Int) (a0_7 : Int) (a0_8 : Int) (a0_9 : Int) (a0_10 : Int) (a0_11 : Int) (a0_12 : Int) (a1 : Int) (a2 : Int) : Option (Int) := (dr5_Good.f l0_0 l0_1 a0_2 a0_3 a0_4 a0_5 a0_6 a0_7 a0_8 a0_9 a0_10 a0_11 a0_12 a1).bind fun t190 => (if t190 = true then ((dr5_Good.f l0_0 l0_1 a0_2 a0_3 a0_4 a0_5 a0_6 a0_7 a0_8 a0_9 a0_10 a0_11 a0_12 a2).bind fun t191 => (if t191 = true then (dr5_Next.j0 k a1 a2 (a1 == a2) l0_0 l0_1 a0_2 a0_3 a0_4 a0_5 a0_6 a0_7 a0_8 a0_9 a0_10 a0_11 a0_12) else (dr5_Next.j0 k a1 a2 true l0_0 l0_1 a0_2 a0_3 a0_4 a0_5 a0_6 a0_7 a0_8 a0_9 a0_10 a0_11 a0_12))) else (dr5_Next.j0 k a1 a2 true l0_0 l0_1 a0_2 a0_3 a0_4 a0_5 a0_6 a0_7 a0_8 a0_9 a0_10 a0_11 a0_12))
set_option maxHeartbeats 8000000 in
set_option maxRecDepth 100000 in
theorem dr5_Next.calls (k : Nat) (A0_0 : Option Addr) (c0_0 : Nat) (l0_0 : List (S43)) (A0_1 : Option Addr) (c0_1 : Nat) (l0_1 : List (S39)) (a0_2 : Int) (a0_3 : Int) (a0_4 : Int) (a0_5 : Int) (a0_6 : Int) (a0_7 : Int) (a0_8 : Int) (a0_9 : Int) (a0_10 : Int) (a0_11 : Int) (a0_12 : Int) (a1 : Int) (a2 : Int) (r : Int) (w : World) (hr0_0 : Kd.C k43 w A0_0 l0_0.length l0_0) (hc0_0 : l0_0.length ≤ c0_0) (hr0_1 : Kd.C k39 w A0_1 l0_1.length l0_1) (hc0_1 : l0_1.length ≤ c0_1) (h : dr5_Next.f k l0_0 l0_1 a0_2 a0_3 a0_4 a0_5 a0_6 a0_7 a0_8 a0_9 a0_10 a0_11 a0_12 a1 a2 = some r) :
  Calls Tryd.prog 8 #[.agg #[.slice A0_0 l0_0.length c0_0, .slice A0_1 l0_1.length c0_1, .int .i64 a0_2, .int .i64 a0_3, .int .i64 a0_4, .int .i64 a0_5, .int .i64 a0_6, .int .i64 a0_7, .int .i64 a0_8, .int .i64 a0_9, .int .i64 a0_10, .int .i64 a0_11, .int .i64 a0_12], .int .i64 a1, .int .i64 a2] w fun e w' => e = .returned (.int .i64 r) ∧ Below w.heap.size w w' := by
 have hu25 := Tryd.underlying25
 have hu39 := Tryd.underlying39
 have HR0_0 := am hr0_0
 have HC0_0 := am hc0_0
 clear hr0_0 hc0_0
 have HR0_1 := am hr0_1
 have HC0_1 := am hc0_1
 clear hr0_1 hc0_1
 have HB := am (Below.refl w.heap.size w)
 have H : ((dr5_Good.f l0_0 l0_1 a0_2 a0_3 a0_4 a0_5 a0_6 a0_7 a0_8 a0_9 a0_10 a0_11 a0_12 a1).bind fun t190 => (if t190 = true then ((dr5_Good.f l0_0 l0_1 a0_2 a0_3 a0_4 a0_5 a0_6 a0_7 a0_8 a0_9 a0_10 a0_11 a0_12 a2).bind fun t191 => (if t191 = true then (dr5_Next.j0 k a1 a2 (a1 == a2) l0_0 l0_1 a0_2 a0_3 a0_4 a0_5 a0_6 a0_7 a0_8 a0_9 a0_10 a0_11 a0_12) else (dr5_Next.j0 k a1 a2 true l0_0 l0_1 a0_2 a0_3 a0_4 a0_5 a0_6 a0_7 a0_8 a0_9 a0_10 a0_11 a0_12))) else (dr5_Next.j0 k a1 a2 true l0_0 l0_1 a0_2 a0_3 a0_4 a0_5 a0_6 a0_7 a0_8 a0_9 a0_10 a0_11 a0_12))) = some r := h
 clear h
 have HC4 := am H
 clear H
 go_enter Tryd.func8, Tryd.ntmps8
 go_upto_region 1 with (first | ((with_reducible refine gate_dst (N := 3) rfl ?_); refine bxe 3 #[.slice A0_0 l0_0.length c0_0, .slice A0_1 l0_1.length c0_1, .int .i64 a0_2, .int .i64 a0_3, .int .i64 a0_4, .int .i64 a0_5, .int .i64 a0_6, .int .i64 a0_7, .int .i64 a0_8, .int .i64 a0_9, .int .i64 a0_10, .int .i64 a0_11, .int .i64 a0_12] 25 ?_; intro gb189 hg w5 hbox hb; have n0_ := am (below_step bl0 hb); have n1_ := am (hbox); have n2_ := am (gw0 hg); have n3_ := am (gw0 hg); clear HB; have HB := n0_; have BK189 := n1_; have GW189 := n2_; have GE189 := n3_; clear n0_ n1_ n2_ n3_; clear hb hbox hg))
 repeat (go_quiet (first | ((with_reducible refine gate_dst (N := 3) rfl ?_); refine bxe 3 #[.slice A0_0 l0_0.length c0_0, .slice A0_1 l0_1.length c0_1, .int .i64 a0_2, .int .i64 a0_3, .int .i64 a0_4, .int .i64 a0_5, .int .i64 a0_6, .int .i64 a0_7, .int .i64 a0_8, .int .i64 a0_9, .int .i64 a0_10, .int .i64 a0_11, .int .i64 a0_12] 25 ?_; intro gb189 hg w5 hbox hb; have n0_ := am (below_step bl0 hb); have n1_ := am (hbox); have n2_ := am (gw0 hg); have n3_ := am (gw0 hg); clear HB; have HB := n0_; have BK189 := n1_; have GW189 := n2_; have GE189 := n3_; clear n0_ n1_ n2_ n3_; clear hb hbox hg)); go_upto_region 1 with (first | ((with_reducible refine gate_dst (N := 3) rfl ?_); refine bxe 3 #[.slice A0_0 l0_0.length c0_0, .slice A0_1 l0_1.length c0_1, .int .i64 a0_2, .int .i64 a0_3, .int .i64 a0_4, .int .i64 a0_5, .int .i64 a0_6, .int .i64 a0_7, .int .i64 a0_8, .int .i64 a0_9, .int .i64 a0_10, .int .i64 a0_11, .int .i64 a0_12] 25 ?_; intro gb189 hg w5 hbox hb; have n0_ := am (below_step bl0 hb); have n1_ := am (hbox); have n2_ := am (gw0 hg); have n3_ := am (gw0 hg); clear HB; have HB := n0_; have BK189 := n1_; have GW189 := n2_; have GE189 := n3_; clear n0_ n1_ n2_ n3_; clear hb hbox hg)))
 (try simp only [Act.put, sAa, sBb, sCc])
 go_cut [24] (fun v24 wc => ∃ (kq : Nat) (x24_3 : Bool), v24 = .bool x24_3 ∧ Aside0 (dr5_Next.j0 kq a1 a2 x24_3 l0_0 l0_1 a0_2 a0_3 a0_4 a0_5 a0_6 a0_7 a0_8 a0_9 a0_10 a0_11 a0_12 = some r) ∧ Aside0 (kq ≤ k) ∧ Aside0 (wc.heap[gb189]? = some (.cells #[(.slice A0_0 l0_0.length c0_0), (.slice A0_1 l0_1.length c0_1), .int .i64 a0_2, .int .i64 a0_3, .int .i64 a0_4, .int .i64 a0_5, .int .i64 a0_6, .int .i64 a0_7, .int .i64 a0_8, .int .i64 a0_9, .int .i64 a0_10, .int .i64 a0_11, .int .i64 a0_12] 25 (0, 0))) ∧ Aside0 (Below w.heap.size w wc))
 case first =>
  have H := HC4.out
  clear HC4
  replace H := bS H
  obtain ⟨t190, A60, H⟩ := H
  replace H : (if t190 = true then ((dr5_Good.f l0_0 l0_1 a0_2 a0_3 a0_4 a0_5 a0_6 a0_7 a0_8 a0_9 a0_10 a0_11 a0_12 a2).bind fun t191 => (if t191 = true then (dr5_Next.j0 k a1 a2 (a1 == a2) l0_0 l0_1 a0_2 a0_3 a0_4 a0_5 a0_6 a0_7 a0_8 a0_9 a0_10 a0_11 a0_12) else (dr5_Next.j0 k a1 a2 true l0_0 l0_1 a0_2 a0_3 a0_4 a0_5 a0_6 a0_7 a0_8 a0_9 a0_10 a0_11 a0_12))) else (dr5_Next.j0 k a1 a2 true l0_0 l0_1 a0_2 a0_3 a0_4 a0_5 a0_6 a0_7 a0_8 a0_9 a0_10 a0_11 a0_12)) = some r := H
  have A6 := am A60
  clear A60
  by_cases c7 : t190 = true
  ·subst c7
   have H1 : ((dr5_Good.f l0_0 l0_1 a0_2 a0_3 a0_4 a0_5 a0_6 a0_7 a0_8 a0_9 a0_10 a0_11 a0_12 a2).bind fun t191 => (if t191 = true then (dr5_Next.j0 k a1 a2 (a1 == a2) l0_0 l0_1 a0_2 a0_3 a0_4 a0_5 a0_6 a0_7 a0_8 a0_9 a0_10 a0_11 a0_12) else (dr5_Next.j0 k a1 a2 true l0_0 l0_1 a0_2 a0_3 a0_4 a0_5 a0_6 a0_7 a0_8 a0_9 a0_10 a0_11 a0_12))) = some r := by rw [if_pos rfl] at H; exact H
   clear H
   have H := H1
   clear H1
   replace H := bS H
   obtain ⟨t191, A80, H⟩ := H
   replace H : (if t191 = true then (dr5_Next.j0 k a1 a2 (a1 == a2) l0_0 l0_1 a0_2 a0_3 a0_4 a0_5 a0_6 a0_7 a0_8 a0_9 a0_10 a0_11 a0_12) else (dr5_Next.j0 k a1 a2 true l0_0 l0_1 a0_2 a0_3 a0_4 a0_5 a0_6 a0_7 a0_8 a0_9 a0_10 a0_11 a0_12)) = some r := H
   have A8 := am A80
   clear A80
   by_cases c9 : t191 = true
   ·subst c9
    have H1 : (dr5_Next.j0 k a1 a2 (a1 == a2) l0_0 l0_1 a0_2 a0_3 a0_4 a0_5 a0_6 a0_7 a0_8 a0_9 a0_10 a0_11 a0_12) = some r := by rw [if_pos rfl] at H; exact H
    clear H
    have H := H1
    clear H1
    have H' := am H
    clear H
    obtain ⟨hcz10_0, hcz10_1, hcz10_2, hcz10_3, hcz10_4, hcz10_5, hcz10_6, hcz10_7, hcz10_8, hcz10_9, hcz10_10, hcz10_11, hcz10_12⟩ := cellsK13 BK189.out
    obtain ⟨hfz10_0, hfz10_1, hfz10_2, hfz10_3, hfz10_4, hfz10_5, hfz10_6, hfz10_7, hfz10_8, hfz10_9, hfz10_10, hfz10_11, hfz10_12⟩ := frozK13 BK189.out
    go_wp2_with (first | (go_at_call 17; (with_reducible refine (dr5_Good.calls _ _ l0_0 _ _ l0_1 a0_2 a0_3 a0_4 a0_5 a0_6 a0_7 a0_8 a0_9 a0_10 a0_11 a0_12 a1 true _ ?side1 ?side2 ?side3 ?side4 A6.out).mono ?_); (case side1 => exact kc HR0_0); (case side2 => exact HC0_0.out); (case side3 => exact kc HR0_1); (case side4 => exact HC0_1.out); rintro e w11 ⟨rfl, hb⟩; have n0_ := am (blk_below (bk BK189) hb); have n1_ := am (below_step (bl1 GE189) hb); clear BK189; clear HB; have BK189 := n0_; have HB := n1_; clear n0_ n1_; (try clear hb); (try clear hb2); (try clear hk); (try clear hi); obtain ⟨hcz12_0, hcz12_1, hcz12_2, hcz12_3, hcz12_4, hcz12_5, hcz12_6, hcz12_7, hcz12_8, hcz12_9, hcz12_10, hcz12_11, hcz12_12⟩ := cellsK13 BK189.out; obtain ⟨hfz12_0, hfz12_1, hfz12_2, hfz12_3, hfz12_4, hfz12_5, hfz12_6, hfz12_7, hfz12_8, hfz12_9, hfz12_10, hfz12_11, hfz12_12⟩ := frozK13 BK189.out) | (go_at_call 17; (with_reducible refine (dr5_Good.calls _ _ l0_0 _ _ l0_1 a0_2 a0_3 a0_4 a0_5 a0_6 a0_7 a0_8 a0_9 a0_10 a0_11 a0_12 a2 true _ ?side1 ?side2 ?side3 ?side4 A8.out).mono ?_); (case side1 => exact kc HR0_0); (case side2 => exact HC0_0.out); (case side3 => exact kc HR0_1); (case side4 => exact HC0_1.out); rintro e w13 ⟨rfl, hb⟩; have n0_ := am (blk_below (bk BK189) hb); have n1_ := am (below_step (bl1 GE189) hb); clear BK189; clear HB; have BK189 := n0_; have HB := n1_; clear n0_ n1_; (try clear hb); (try clear hb2); (try clear hk); (try clear hi)))
    repeat (go_quiet (first | (go_at_call 17; (with_reducible refine (dr5_Good.calls _ _ l0_0 _ _ l0_1 a0_2 a0_3 a0_4 a0_5 a0_6 a0_7 a0_8 a0_9 a0_10 a0_11 a0_12 a1 true _ ?side1 ?side2 ?side3 ?side4 A6.out).mono ?_); (case side1 => exact kc HR0_0); (case side2 => exact HC0_0.out); (case side3 => exact kc HR0_1); (case side4 => exact HC0_1.out); rintro e w11 ⟨rfl, hb⟩; have n0_ := am (blk_below (bk BK189) hb); have n1_ := am (below_step (bl1 GE189) hb); clear BK189; clear HB; have BK189 := n0_; have HB := n1_; clear n0_ n1_; (try clear hb); (try clear hb2); (try clear hk); (try clear hi); obtain ⟨hcz12_0, hcz12_1, hcz12_2, hcz12_3, hcz12_4, hcz12_5, hcz12_6, hcz12_7, hcz12_8, hcz12_9, hcz12_10, hcz12_11, hcz12_12⟩ := cellsK13 BK189.out; obtain ⟨hfz12_0, hfz12_1, hfz12_2, hfz12_3, hfz12_4, hfz12_5, hfz12_6, hfz12_7, hfz12_8, hfz12_9, hfz12_10, hfz12_11, hfz12_12⟩ := frozK13 BK189.out) | (go_at_call 17; (with_reducible refine (dr5_Good.calls _ _ l0_0 _ _ l0_1 a0_2 a0_3 a0_4 a0_5 a0_6 a0_7 a0_8 a0_9 a0_10 a0_11 a0_12 a2 true _ ?side1 ?side2 ?side3 ?side4 A8.out).mono ?_); (case side1 => exact kc HR0_0); (case side2 => exact HC0_0.out); (case side3 => exact kc HR0_1); (case side4 => exact HC0_1.out); rintro e w13 ⟨rfl, hb⟩; have n0_ := am (blk_below (bk BK189) hb); have n1_ := am (below_step (bl1 GE189) hb); clear BK189; clear HB; have BK189 := n0_; have HB := n1_; clear n0_ n1_; (try clear hb); (try clear hb2); (try clear hk); (try clear hi))); try go_wp2_with (first | (go_at_call 17; (with_reducible refine (dr5_Good.calls _ _ l0_0 _ _ l0_1 a0_2 a0_3 a0_4 a0_5 a0_6 a0_7 a0_8 a0_9 a0_10 a0_11 a0_12 a1 true _ ?side1 ?side2 ?side3 ?side4 A6.out).mono ?_); (case side1 => exact kc HR0_0); (case side2 => exact HC0_0.out); (case side3 => exact kc HR0_1); (case side4 => exact HC0_1.out); rintro e w11 ⟨rfl, hb⟩; have n0_ := am (blk_below (bk BK189) hb); have n1_ := am (below_step (bl1 GE189) hb); clear BK189; clear HB; have BK189 := n0_; have HB := n1_; clear n0_ n1_; (try clear hb); (try clear hb2); (try clear hk); (try clear hi); obtain ⟨hcz12_0, hcz12_1, hcz12_2, hcz12_3, hcz12_4, hcz12_5, hcz12_6, hcz12_7, hcz12_8, hcz12_9, hcz12_10, hcz12_11, hcz12_12⟩ := cellsK13 BK189.out; obtain ⟨hfz12_0, hfz12_1, hfz12_2, hfz12_3, hfz12_4, hfz12_5, hfz12_6, hfz12_7, hfz12_8, hfz12_9, hfz12_10, hfz12_11, hfz12_12⟩ := frozK13 BK189.out) | (go_at_call 17; (with_reducible refine (dr5_Good.calls _ _ l0_0 _ _ l0_1 a0_2 a0_3 a0_4 a0_5 a0_6 a0_7 a0_8 a0_9 a0_10 a0_11 a0_12 a2 true _ ?side1 ?side2 ?side3 ?side4 A8.out).mono ?_); (case side1 => exact kc HR0_0); (case side2 => exact HC0_0.out); (case side3 => exact kc HR0_1); (case side4 => exact HC0_1.out); rintro e w13 ⟨rfl, hb⟩; have n0_ := am (blk_below (bk BK189) hb); have n1_ := am (below_step (bl1 GE189) hb); clear BK189; clear HB; have BK189 := n0_; have HB := n1_; clear n0_ n1_; (try clear hb); (try clear hb2); (try clear hk); (try clear hi))))
    go_meet
    case rel => exact ⟨_, ((a1 == a2)), bx, H', ⟨by first | omega | exact Nat.le_refl _⟩, ⟨bk BK189⟩, ⟨bl1 GE189⟩⟩
   ·replace c9 := Bool.eq_false_iff.mpr c9
    subst c9
    have H1 : (dr5_Next.j0 k a1 a2 true l0_0 l0_1 a0_2 a0_3 a0_4 a0_5 a0_6 a0_7 a0_8 a0_9 a0_10 a0_11 a0_12) = some r := by rw [if_neg (show ¬ (false = true) by decide)] at H; exact H
    clear H
    have H := H1
    clear H1
    have H' := am H
    clear H
    obtain ⟨hcz14_0, hcz14_1, hcz14_2, hcz14_3, hcz14_4, hcz14_5, hcz14_6, hcz14_7, hcz14_8, hcz14_9, hcz14_10, hcz14_11, hcz14_12⟩ := cellsK13 BK189.out
    obtain ⟨hfz14_0, hfz14_1, hfz14_2, hfz14_3, hfz14_4, hfz14_5, hfz14_6, hfz14_7, hfz14_8, hfz14_9, hfz14_10, hfz14_11, hfz14_12⟩ := frozK13 BK189.out
    go_wp2_with (first | (go_at_call 17; (with_reducible refine (dr5_Good.calls _ _ l0_0 _ _ l0_1 a0_2 a0_3 a0_4 a0_5 a0_6 a0_7 a0_8 a0_9 a0_10 a0_11 a0_12 a1 true _ ?side1 ?side2 ?side3 ?side4 A6.out).mono ?_); (case side1 => exact kc HR0_0); (case side2 => exact HC0_0.out); (case side3 => exact kc HR0_1); (case side4 => exact HC0_1.out); rintro e w15 ⟨rfl, hb⟩; have n0_ := am (blk_below (bk BK189) hb); have n1_ := am (below_step (bl1 GE189) hb); clear BK189; clear HB; have BK189 := n0_; have HB := n1_; clear n0_ n1_; (try clear hb); (try clear hb2); (try clear hk); (try clear hi); obtain ⟨hcz16_0, hcz16_1, hcz16_2, hcz16_3, hcz16_4, hcz16_5, hcz16_6, hcz16_7, hcz16_8, hcz16_9, hcz16_10, hcz16_11, hcz16_12⟩ := cellsK13 BK189.out; obtain ⟨hfz16_0, hfz16_1, hfz16_2, hfz16_3, hfz16_4, hfz16_5, hfz16_6, hfz16_7, hfz16_8, hfz16_9, hfz16_10, hfz16_11, hfz16_12⟩ := frozK13 BK189.out) | (go_at_call 17; (with_reducible refine (dr5_Good.calls _ _ l0_0 _ _ l0_1 a0_2 a0_3 a0_4 a0_5 a0_6 a0_7 a0_8 a0_9 a0_10 a0_11 a0_12 a2 false _ ?side1 ?side2 ?side3 ?side4 A8.out).mono ?_); (case side1 => exact kc HR0_0); (case side2 => exact HC0_0.out); (case side3 => exact kc HR0_1); (case side4 => exact HC0_1.out); rintro e w17 ⟨rfl, hb⟩; have n0_ := am (blk_below (bk BK189) hb); have n1_ := am (below_step (bl1 GE189) hb); clear BK189; clear HB; have BK189 := n0_; have HB := n1_; clear n0_ n1_; (try clear hb); (try clear hb2); (try clear hk); (try clear hi)))
    repeat (go_quiet (first | (go_at_call 17; (with_reducible refine (dr5_Good.calls _ _ l0_0 _ _ l0_1 a0_2 a0_3 a0_4 a0_5 a0_6 a0_7 a0_8 a0_9 a0_10 a0_11 a0_12 a1 true _ ?side1 ?side2 ?side3 ?side4 A6.out).mono ?_); (case side1 => exact kc HR0_0); (case side2 => exact HC0_0.out); (case side3 => exact kc HR0_1); (case side4 => exact HC0_1.out); rintro e w15 ⟨rfl, hb⟩; have n0_ := am (blk_below (bk BK189) hb); have n1_ := am (below_step (bl1 GE189) hb); clear BK189; clear HB; have BK189 := n0_; have HB := n1_; clear n0_ n1_; (try clear hb); (try clear hb2); (try clear hk); (try clear hi); obtain ⟨hcz16_0, hcz16_1, hcz16_2, hcz16_3, hcz16_4, hcz16_5, hcz16_6, hcz16_7, hcz16_8, hcz16_9, hcz16_10, hcz16_11, hcz16_12⟩ := cellsK13 BK189.out; obtain ⟨hfz16_0, hfz16_1, hfz16_2, hfz16_3, hfz16_4, hfz16_5, hfz16_6, hfz16_7, hfz16_8, hfz16_9, hfz16_10, hfz16_11, hfz16_12⟩ := frozK13 BK189.out) | (go_at_call 17; (with_reducible refine (dr5_Good.calls _ _ l0_0 _ _ l0_1 a0_2 a0_3 a0_4 a0_5 a0_6 a0_7 a0_8 a0_9 a0_10 a0_11 a0_12 a2 false _ ?side1 ?side2 ?side3 ?side4 A8.out).mono ?_); (case side1 => exact kc HR0_0); (case side2 => exact HC0_0.out); (case side3 => exact kc HR0_1); (case side4 => exact HC0_1.out); rintro e w17 ⟨rfl, hb⟩; have n0_ := am (blk_below (bk BK189) hb); have n1_ := am (below_step (bl1 GE189) hb); clear BK189; clear HB; have BK189 := n0_; have HB := n1_; clear n0_ n1_; (try clear hb); (try clear hb2); (try clear hk); (try clear hi))); try go_wp2_with (first | (go_at_call 17; (with_reducible refine (dr5_Good.calls _ _ l0_0 _ _ l0_1 a0_2 a0_3 a0_4 a0_5 a0_6 a0_7 a0_8 a0_9 a0_10 a0_11 a0_12 a1 true _ ?side1 ?side2 ?side3 ?side4 A6.out).mono ?_); (case side1 => exact kc HR0_0); (case side2 => exact HC0_0.out); (case side3 => exact kc HR0_1); (case side4 => exact HC0_1.out); rintro e w15 ⟨rfl, hb⟩; have n0_ := am (blk_below (bk BK189) hb); have n1_ := am (below_step (bl1 GE189) hb); clear BK189; clear HB; have BK189 := n0_; have HB := n1_; clear n0_ n1_; (try clear hb); (try clear hb2); (try clear hk); (try clear hi); obtain ⟨hcz16_0, hcz16_1, hcz16_2, hcz16_3, hcz16_4, hcz16_5, hcz16_6, hcz16_7, hcz16_8, hcz16_9, hcz16_10, hcz16_11, hcz16_12⟩ := cellsK13 BK189.out; obtain ⟨hfz16_0, hfz16_1, hfz16_2, hfz16_3, hfz16_4, hfz16_5, hfz16_6, hfz16_7, hfz16_8, hfz16_9, hfz16_10, hfz16_11, hfz16_12⟩ := frozK13 BK189.out) | (go_at_call 17; (with_reducible refine (dr5_Good.calls _ _ l0_0 _ _ l0_1 a0_2 a0_3 a0_4 a0_5 a0_6 a0_7 a0_8 a0_9 a0_10 a0_11 a0_12 a2 false _ ?side1 ?side2 ?side3 ?side4 A8.out).mono ?_); (case side1 => exact kc HR0_0); (case side2 => exact HC0_0.out); (case side3 => exact kc HR0_1); (case side4 => exact HC0_1.out); rintro e w17 ⟨rfl, hb⟩; have n0_ := am (blk_below (bk BK189) hb); have n1_ := am (below_step (bl1 GE189) hb); clear BK189; clear HB; have BK189 := n0_; have HB := n1_; clear n0_ n1_; (try clear hb); (try clear hb2); (try clear hk); (try clear hi))))
    go_meet
    case rel => exact ⟨_, (true), bx, H', ⟨by first | omega | exact Nat.le_refl _⟩, ⟨bk BK189⟩, ⟨bl1 GE189⟩⟩
  ·replace c7 := Bool.eq_false_iff.mpr c7
   subst c7
   have H1 : (dr5_Next.j0 k a1 a2 true l0_0 l0_1 a0_2 a0_3 a0_4 a0_5 a0_6 a0_7 a0_8 a0_9 a0_10 a0_11 a0_12) = some r := by rw [if_neg (show ¬ (false = true) by decide)] at H; exact H
   clear H
   have H := H1
   clear H1
   have H' := am H
   clear H
   obtain ⟨hcz18_0, hcz18_1, hcz18_2, hcz18_3, hcz18_4, hcz18_5, hcz18_6, hcz18_7, hcz18_8, hcz18_9, hcz18_10, hcz18_11, hcz18_12⟩ := cellsK13 BK189.out
   obtain ⟨hfz18_0, hfz18_1, hfz18_2, hfz18_3, hfz18_4, hfz18_5, hfz18_6, hfz18_7, hfz18_8, hfz18_9, hfz18_10, hfz18_11, hfz18_12⟩ := frozK13 BK189.out
   go_wp2_with (first | (go_at_call 17; (with_reducible refine (dr5_Good.calls _ _ l0_0 _ _ l0_1 a0_2 a0_3 a0_4 a0_5 a0_6 a0_7 a0_8 a0_9 a0_10 a0_11 a0_12 a1 false _ ?side1 ?side2 ?side3 ?side4 A6.out).mono ?_); (case side1 => exact kc HR0_0); (case side2 => exact HC0_0.out); (case side3 => exact kc HR0_1); (case side4 => exact HC0_1.out); rintro e w19 ⟨rfl, hb⟩; have n0_ := am (blk_below (bk BK189) hb); have n1_ := am (below_step (bl1 GE189) hb); clear BK189; clear HB; have BK189 := n0_; have HB := n1_; clear n0_ n1_; (try clear hb); (try clear hb2); (try clear hk); (try clear hi)))
   repeat (go_quiet (first | (go_at_call 17; (with_reducible refine (dr5_Good.calls _ _ l0_0 _ _ l0_1 a0_2 a0_3 a0_4 a0_5 a0_6 a0_7 a0_8 a0_9 a0_10 a0_11 a0_12 a1 false _ ?side1 ?side2 ?side3 ?side4 A6.out).mono ?_); (case side1 => exact kc HR0_0); (case side2 => exact HC0_0.out); (case side3 => exact kc HR0_1); (case side4 => exact HC0_1.out); rintro e w19 ⟨rfl, hb⟩; have n0_ := am (blk_below (bk BK189) hb); have n1_ := am (below_step (bl1 GE189) hb); clear BK189; clear HB; have BK189 := n0_; have HB := n1_; clear n0_ n1_; (try clear hb); (try clear hb2); (try clear hk); (try clear hi))); try go_wp2_with (first | (go_at_call 17; (with_reducible refine (dr5_Good.calls _ _ l0_0 _ _ l0_1 a0_2 a0_3 a0_4 a0_5 a0_6 a0_7 a0_8 a0_9 a0_10 a0_11 a0_12 a1 false _ ?side1 ?side2 ?side3 ?side4 A6.out).mono ?_); (case side1 => exact kc HR0_0); (case side2 => exact HC0_0.out); (case side3 => exact kc HR0_1); (case side4 => exact HC0_1.out); rintro e w19 ⟨rfl, hb⟩; have n0_ := am (blk_below (bk BK189) hb); have n1_ := am (below_step (bl1 GE189) hb); clear BK189; clear HB; have BK189 := n0_; have HB := n1_; clear n0_ n1_; (try clear hb); (try clear hb2); (try clear hk); (try clear hi))))
   go_meet
   case rel => exact ⟨_, (true), bx, H', ⟨by first | omega | exact Nat.le_refl _⟩, ⟨bk BK189⟩, ⟨bl1 GE189⟩⟩
 case rest =>
  clear HC4
  try clear p2
  try clear c7
  try clear c8
  try clear c9
  try clear hcz10_0 hcz10_1 hcz10_10 hcz10_11 hcz10_12 hcz10_2 hcz10_3 hcz10_4 hcz10_5 hcz10_6 hcz10_7 hcz10_8 hcz10_9
  try clear hcz12_0 hcz12_1 hcz12_10 hcz12_11 hcz12_12 hcz12_2 hcz12_3 hcz12_4 hcz12_5 hcz12_6 hcz12_7 hcz12_8 hcz12_9
  try clear hcz14_0 hcz14_1 hcz14_10 hcz14_11 hcz14_12 hcz14_2 hcz14_3 hcz14_4 hcz14_5 hcz14_6 hcz14_7 hcz14_8 hcz14_9
  try clear hcz16_0 hcz16_1 hcz16_10 hcz16_11 hcz16_12 hcz16_2 hcz16_3 hcz16_4 hcz16_5 hcz16_6 hcz16_7 hcz16_8 hcz16_9
  try clear hcz18_0 hcz18_1 hcz18_10 hcz18_11 hcz18_12 hcz18_2 hcz18_3 hcz18_4 hcz18_5 hcz18_6 hcz18_7 hcz18_8 hcz18_9
  try clear hfz10_0 hfz10_1 hfz10_10 hfz10_11 hfz10_12 hfz10_2 hfz10_3 hfz10_4 hfz10_5 hfz10_6 hfz10_7 hfz10_8 hfz10_9
  try clear hfz12_0 hfz12_1 hfz12_10 hfz12_11 hfz12_12 hfz12_2 hfz12_3 hfz12_4 hfz12_5 hfz12_6 hfz12_7 hfz12_8 hfz12_9
  try clear hfz14_0 hfz14_1 hfz14_10 hfz14_11 hfz14_12 hfz14_2 hfz14_3 hfz14_4 hfz14_5 hfz14_6 hfz14_7 hfz14_8 hfz14_9
  try clear hfz16_0 hfz16_1 hfz16_10 hfz16_11 hfz16_12 hfz16_2 hfz16_3 hfz16_4 hfz16_5 hfz16_6 hfz16_7 hfz16_8 hfz16_9
  try clear hfz18_0 hfz18_1 hfz18_10 hfz18_11 hfz18_12 hfz18_2 hfz18_3 hfz18_4 hfz18_5 hfz18_6 hfz18_7 hfz18_8 hfz18_9
  obtain ⟨kq, x24_3, rfl, HA, HJ3, BK189, HB⟩ := hcut
  cases kq with
  | zero => exact absurd HA.out (by simp [dr5_Next.j0])
  | succ kj3 =>
   have H := HA.out
   clear HA
   simp only [dr5_Next.j0] at H
   by_cases c20 : x24_3 = true
   ·subst c20
    have H1 : (some (-1)) = some r := by rw [if_pos rfl] at H; exact H
    clear H
    have H := H1
    clear H1
    obtain rfl := Option.some.inj H
    go_wp2
    repeat (go_quiet (fail); try go_wp2)
    go_ret
    exact ⟨ew, bl1 GE189⟩
   ·replace c20 := Bool.eq_false_iff.mpr c20
    subst c20
    have H1 : ((dr5_dists.f kj3 l0_0 l0_1 a0_2 a0_3 a0_4 a0_5 a0_6 a0_7 a0_8 a0_9 a0_10 a0_11 a0_12 a2).bind fun t192 => (dr5_Next.l0 kj3 a1 t192 0 l0_0 l0_1 a0_2 a0_3 a0_4 a0_5 a0_6 a0_7 a0_8 a0_9 a0_10 a0_11 a0_12)) = some r := by rw [if_neg (show ¬ (false = true) by decide)] at H; exact H
    clear H
    have H := H1
    clear H1
    replace H := bS H
    obtain ⟨t192, A210, H⟩ := H
    replace H : (dr5_Next.l0 kj3 a1 t192 0 l0_0 l0_1 a0_2 a0_3 a0_4 a0_5 a0_6 a0_7 a0_8 a0_9 a0_10 a0_11 a0_12) = some r := H
    have A21 := am A210
    clear A210
    have H' := am H
    clear H
    obtain ⟨hcz22_0, hcz22_1, hcz22_2, hcz22_3, hcz22_4, hcz22_5, hcz22_6, hcz22_7, hcz22_8, hcz22_9, hcz22_10, hcz22_11, hcz22_12⟩ := cellsK13 BK189.out
    obtain ⟨hfz22_0, hfz22_1, hfz22_2, hfz22_3, hfz22_4, hfz22_5, hfz22_6, hfz22_7, hfz22_8, hfz22_9, hfz22_10, hfz22_11, hfz22_12⟩ := frozK13 BK189.out
    go_wp2_with (first | (go_at_call 18; (with_reducible refine (dr5_dists.calls kj3 _ _ l0_0 _ _ l0_1 a0_2 a0_3 a0_4 a0_5 a0_6 a0_7 a0_8 a0_9 a0_10 a0_11 a0_12 a2 t192 _ ?side1 ?side2 ?side3 ?side4 A21.out).mono ?_); (case side1 => exact kc HR0_0); (case side2 => exact HC0_0.out); (case side3 => exact kc HR0_1); (case side4 => exact HC0_1.out); rintro e w23 ⟨v193, rfl, ho0, hb⟩; have n0_ := am (Kd.R_lower ho0 (below_size (bl1 GE189))); have n1_ := am (blk_below (bk BK189) hb); have n2_ := am (below_step (bl1 GE189) hb); clear BK189; clear HB; have HO194 := n0_; have BK189 := n1_; have HB := n2_; clear n0_ n1_ n2_; (try clear hb); (try clear hb2); (try clear hk); (try clear hi); (try clear ho0)))
    repeat (go_quiet (first | (go_at_call 18; (with_reducible refine (dr5_dists.calls kj3 _ _ l0_0 _ _ l0_1 a0_2 a0_3 a0_4 a0_5 a0_6 a0_7 a0_8 a0_9 a0_10 a0_11 a0_12 a2 t192 _ ?side1 ?side2 ?side3 ?side4 A21.out).mono ?_); (case side1 => exact kc HR0_0); (case side2 => exact HC0_0.out); (case side3 => exact kc HR0_1); (case side4 => exact HC0_1.out); rintro e w23 ⟨v193, rfl, ho0, hb⟩; have n0_ := am (Kd.R_lower ho0 (below_size (bl1 GE189))); have n1_ := am (blk_below (bk BK189) hb); have n2_ := am (below_step (bl1 GE189) hb); clear BK189; clear HB; have HO194 := n0_; have BK189 := n1_; have HB := n2_; clear n0_ n1_ n2_; (try clear hb); (try clear hb2); (try clear hk); (try clear hi); (try clear ho0))); try go_wp2_with (first | (go_at_call 18; (with_reducible refine (dr5_dists.calls kj3 _ _ l0_0 _ _ l0_1 a0_2 a0_3 a0_4 a0_5 a0_6 a0_7 a0_8 a0_9 a0_10 a0_11 a0_12 a2 t192 _ ?side1 ?side2 ?side3 ?side4 A21.out).mono ?_); (case side1 => exact kc HR0_0); (case side2 => exact HC0_0.out); (case side3 => exact kc HR0_1); (case side4 => exact HC0_1.out); rintro e w23 ⟨v193, rfl, ho0, hb⟩; have n0_ := am (Kd.R_lower ho0 (below_size (bl1 GE189))); have n1_ := am (blk_below (bk BK189) hb); have n2_ := am (below_step (bl1 GE189) hb); clear BK189; clear HB; have HO194 := n0_; have BK189 := n1_; have HB := n2_; clear n0_ n1_ n2_; (try clear hb); (try clear hb2); (try clear hk); (try clear hi); (try clear ho0))))
    go_loopg [8] kj3 (fun kq v8 w' => ∃ (x8_2 : Int), v8 = .int .i64 x8_2 ∧ Aside0 (dr5_Next.l0 kq a1 t192 x8_2 l0_0 l0_1 a0_2 a0_3 a0_4 a0_5 a0_6 a0_7 a0_8 a0_9 a0_10 a0_11 a0_12 = some r) ∧ Aside0 (kq ≤ kj3) ∧ Aside0 (Kd.R (Kd.int .i64) 3 w' w.heap.size (fun _ => True) v193 t192) ∧ Aside0 (w'.heap[gb189]? = some (.cells #[(.slice A0_0 l0_0.length c0_0), (.slice A0_1 l0_1.length c0_1), .int .i64 a0_2, .int .i64 a0_3, .int .i64 a0_4, .int .i64 a0_5, .int .i64 a0_6, .int .i64 a0_7, .int .i64 a0_8, .int .i64 a0_9, .int .i64 a0_10, .int .i64 a0_11, .int .i64 a0_12] 25 (0, 0))) ∧ Aside0 (Below w.heap.size w w'))
    case atStart => exact ⟨(0), bx, H', ⟨Nat.le_refl _⟩, ⟨kr HO194.out⟩, ⟨bk BK189⟩, ⟨bl1 GE189⟩⟩
    case round =>
     clear H'
     try clear c2
     try clear p2
     try clear c7
     try clear c8
     try clear c9
     try clear c20
     try clear hcz10_0 hcz10_1 hcz10_10 hcz10_11 hcz10_12 hcz10_2 hcz10_3 hcz10_4 hcz10_5 hcz10_6 hcz10_7 hcz10_8 hcz10_9
     try clear hcz12_0 hcz12_1 hcz12_10 hcz12_11 hcz12_12 hcz12_2 hcz12_3 hcz12_4 hcz12_5 hcz12_6 hcz12_7 hcz12_8 hcz12_9
     try clear hcz14_0 hcz14_1 hcz14_10 hcz14_11 hcz14_12 hcz14_2 hcz14_3 hcz14_4 hcz14_5 hcz14_6 hcz14_7 hcz14_8 hcz14_9
     try clear hcz16_0 hcz16_1 hcz16_10 hcz16_11 hcz16_12 hcz16_2 hcz16_3 hcz16_4 hcz16_5 hcz16_6 hcz16_7 hcz16_8 hcz16_9
     try clear hcz18_0 hcz18_1 hcz18_10 hcz18_11 hcz18_12 hcz18_2 hcz18_3 hcz18_4 hcz18_5 hcz18_6 hcz18_7 hcz18_8 hcz18_9
     try clear hcz22_0 hcz22_1 hcz22_10 hcz22_11 hcz22_12 hcz22_2 hcz22_3 hcz22_4 hcz22_5 hcz22_6 hcz22_7 hcz22_8 hcz22_9
     try clear hfz10_0 hfz10_1 hfz10_10 hfz10_11 hfz10_12 hfz10_2 hfz10_3 hfz10_4 hfz10_5 hfz10_6 hfz10_7 hfz10_8 hfz10_9
     try clear hfz12_0 hfz12_1 hfz12_10 hfz12_11 hfz12_12 hfz12_2 hfz12_3 hfz12_4 hfz12_5 hfz12_6 hfz12_7 hfz12_8 hfz12_9
     try clear hfz14_0 hfz14_1 hfz14_10 hfz14_11 hfz14_12 hfz14_2 hfz14_3 hfz14_4 hfz14_5 hfz14_6 hfz14_7 hfz14_8 hfz14_9
     try clear hfz16_0 hfz16_1 hfz16_10 hfz16_11 hfz16_12 hfz16_2 hfz16_3 hfz16_4 hfz16_5 hfz16_6 hfz16_7 hfz16_8 hfz16_9
     try clear hfz18_0 hfz18_1 hfz18_10 hfz18_11 hfz18_12 hfz18_2 hfz18_3 hfz18_4 hfz18_5 hfz18_6 hfz18_7 hfz18_8 hfz18_9
     try clear hfz22_0 hfz22_1 hfz22_10 hfz22_11 hfz22_12 hfz22_2 hfz22_3 hfz22_4 hfz22_5 hfz22_6 hfz22_7 hfz22_8 hfz22_9
     try clear p2
     obtain ⟨x8_2, rfl, HA, HK2, HO_7, BK189, HB⟩ := hrel
     cases gk with
     | zero => exact absurd HA.out (by simp [dr5_Next.l0])
     | succ k2 =>
      have H := HA.out
      clear HA
      simp only [dr5_Next.l0] at H
      by_cases c24 : x8_2 < (l0_1.length : Int)
      ·rw [if_pos c24] at H
       have c24b0 : decide (x8_2 < (l0_1.length : Int)) = true := dT c24
       clear c24
       by_cases c25 : 0 ≤ x8_2
       ·rw [if_pos c25] at H
        have c25b0 : decide (0 ≤ x8_2) = true := dT c25
        clear c25
        replace H := bS H
        obtain ⟨t196, A260, H⟩ := H
        replace H : (if t196 ≥ 0 then (if 0 ≤ t196 then (if t196 < (t192.length : Int) then (if 0 ≤ a1 then (if a1 < (t192.length : Int) then (if (rd t192 t196) < (rd t192 a1) then (some x8_2) else (dr5_Next.l0 k2 a1 t192 (wrap64 (x8_2 + 1)) l0_0 l0_1 a0_2 a0_3 a0_4 a0_5 a0_6 a0_7 a0_8 a0_9 a0_10 a0_11 a0_12)) else (none)) else (none)) else (none)) else (none)) else (dr5_Next.l0 k2 a1 t192 (wrap64 (x8_2 + 1)) l0_0 l0_1 a0_2 a0_3 a0_4 a0_5 a0_6 a0_7 a0_8 a0_9 a0_10 a0_11 a0_12)) = some r := H
        have A26 := am A260
        clear A260
        by_cases c27 : t196 ≥ 0
        ·rw [if_pos c27] at H
         have c27b0 : decide (0 ≤ t196) = true := dT c27
         clear c27
         by_cases c28 : 0 ≤ t196
         ·rw [if_pos c28] at H
          have c28b0 : decide (0 ≤ t196) = true := dT c28
          clear c28
          by_cases c29 : t196 < (t192.length : Int)
          ·rw [if_pos c29] at H
           have c29b0 : decide (t196 < (t192.length : Int)) = true := dT c29
           clear c29
           by_cases c30 : 0 ≤ a1
           ·rw [if_pos c30] at H
            have c30b0 : decide (0 ≤ a1) = true := dT c30
            clear c30
            by_cases c31 : a1 < (t192.length : Int)
            ·rw [if_pos c31] at H
             have c31b0 : decide (a1 < (t192.length : Int)) = true := dT c31
             clear c31
             by_cases c32 : (rd t192 t196) < (rd t192 a1)
             ·rw [if_pos c32] at H
              have c32b0 : decide ((rd t192 t196) < (rd t192 a1)) = true := dT c32
              clear c32
              obtain rfl := Option.some.inj H
              obtain ⟨hcz33_0, hcz33_1, hcz33_2, hcz33_3, hcz33_4, hcz33_5, hcz33_6, hcz33_7, hcz33_8, hcz33_9, hcz33_10, hcz33_11, hcz33_12⟩ := cellsK13 BK189.out
              obtain ⟨hfz33_0, hfz33_1, hfz33_2, hfz33_3, hfz33_4, hfz33_5, hfz33_6, hfz33_7, hfz33_8, hfz33_9, hfz33_10, hfz33_11, hfz33_12⟩ := frozK13 BK189.out
              have p195 : 0 ≤ (x8_2 : Int) := oT asm
              have q195 : x8_2 < (l0_1.length : Int) := oT asm
              obtain ⟨ad195, e195, hx195_0, hx195_1, hx195_2, hx195_3, hx195_4, hx195_5⟩ := at_T39 HR0_1.out x8_2 p195 q195
              cases e195
              replace hx195_0 := hxk HB hx195_0
              replace hx195_1 := hxk HB hx195_1
              replace hx195_2 := hxk HB hx195_2
              replace hx195_3 := hxk HB hx195_3
              replace hx195_4 := hxk HB hx195_4
              replace hx195_5 := hxk HB hx195_5
              replace p195 := eq_true p195
              replace q195 := eq_true q195
              go_wp2_with (first | (go_at_call 20; (with_reducible refine (dr5_other.calls ((rd_T39 l0_1 x8_2).f0) ((rd_T39 l0_1 x8_2).f1) ((rd_T39 l0_1 x8_2).f2.f0) ((rd_T39 l0_1 x8_2).f2.f1) ((rd_T39 l0_1 x8_2).f3.f0) ((rd_T39 l0_1 x8_2).f3.f1) a1 t196 _ A26.out).mono ?_); rintro e w34 ⟨rfl, hb⟩; have n0_ := am (Kd.R_below (kr HO_7.out) hb); have n1_ := am (blk_below (bk BK189) hb); have n2_ := am (below_step (bl1 GE189) hb); clear HO_7; clear BK189; clear HB; have HO_7 := n0_; have BK189 := n1_; have HB := n2_; clear n0_ n1_ n2_; (try clear hb); (try clear hb2); (try clear hk); (try clear hi); obtain ⟨Ao35, co35, eo35⟩ := Kd.R_slice HO_7.out; subst eo35; have p197 : 0 ≤ (t196 : Int) := oT asm; have q197 : t196 < (t192.length : Int) := oT asm; obtain ⟨ad197, e197, hx197_0⟩ := Kd.at_int (Kd.R_reads' HO_7.out).2.2 t196 p197 q197; cases e197; replace p197 := eq_true p197; replace q197 := eq_true q197; have p198 : 0 ≤ (a1 : Int) := oT asm; have q198 : a1 < (t192.length : Int) := oT asm; obtain ⟨ad198, e198, hx198_0⟩ := Kd.at_int (Kd.R_reads' HO_7.out).2.2 a1 p198 q198; obtain rfl : ad197 = ad198 := (by injection e198); replace p198 := eq_true p198; replace q198 := eq_true q198))
              repeat (go_quiet (first | (go_at_call 20; (with_reducible refine (dr5_other.calls ((rd_T39 l0_1 x8_2).f0) ((rd_T39 l0_1 x8_2).f1) ((rd_T39 l0_1 x8_2).f2.f0) ((rd_T39 l0_1 x8_2).f2.f1) ((rd_T39 l0_1 x8_2).f3.f0) ((rd_T39 l0_1 x8_2).f3.f1) a1 t196 _ A26.out).mono ?_); rintro e w34 ⟨rfl, hb⟩; have n0_ := am (Kd.R_below (kr HO_7.out) hb); have n1_ := am (blk_below (bk BK189) hb); have n2_ := am (below_step (bl1 GE189) hb); clear HO_7; clear BK189; clear HB; have HO_7 := n0_; have BK189 := n1_; have HB := n2_; clear n0_ n1_ n2_; (try clear hb); (try clear hb2); (try clear hk); (try clear hi); obtain ⟨Ao35, co35, eo35⟩ := Kd.R_slice HO_7.out; subst eo35; have p197 : 0 ≤ (t196 : Int) := oT asm; have q197 : t196 < (t192.length : Int) := oT asm; obtain ⟨ad197, e197, hx197_0⟩ := Kd.at_int (Kd.R_reads' HO_7.out).2.2 t196 p197 q197; cases e197; replace p197 := eq_true p197; replace q197 := eq_true q197; have p198 : 0 ≤ (a1 : Int) := oT asm; have q198 : a1 < (t192.length : Int) := oT asm; obtain ⟨ad198, e198, hx198_0⟩ := Kd.at_int (Kd.R_reads' HO_7.out).2.2 a1 p198 q198; obtain rfl : ad197 = ad198 := (by injection e198); replace p198 := eq_true p198; replace q198 := eq_true q198)); try go_wp2_with (first | (go_at_call 20; (with_reducible refine (dr5_other.calls ((rd_T39 l0_1 x8_2).f0) ((rd_T39 l0_1 x8_2).f1) ((rd_T39 l0_1 x8_2).f2.f0) ((rd_T39 l0_1 x8_2).f2.f1) ((rd_T39 l0_1 x8_2).f3.f0) ((rd_T39 l0_1 x8_2).f3.f1) a1 t196 _ A26.out).mono ?_); rintro e w34 ⟨rfl, hb⟩; have n0_ := am (Kd.R_below (kr HO_7.out) hb); have n1_ := am (blk_below (bk BK189) hb); have n2_ := am (below_step (bl1 GE189) hb); clear HO_7; clear BK189; clear HB; have HO_7 := n0_; have BK189 := n1_; have HB := n2_; clear n0_ n1_ n2_; (try clear hb); (try clear hb2); (try clear hk); (try clear hi); obtain ⟨Ao35, co35, eo35⟩ := Kd.R_slice HO_7.out; subst eo35; have p197 : 0 ≤ (t196 : Int) := oT asm; have q197 : t196 < (t192.length : Int) := oT asm; obtain ⟨ad197, e197, hx197_0⟩ := Kd.at_int (Kd.R_reads' HO_7.out).2.2 t196 p197 q197; cases e197; replace p197 := eq_true p197; replace q197 := eq_true q197; have p198 : 0 ≤ (a1 : Int) := oT asm; have q198 : a1 < (t192.length : Int) := oT asm; obtain ⟨ad198, e198, hx198_0⟩ := Kd.at_int (Kd.R_reads' HO_7.out).2.2 a1 p198 q198; obtain rfl : ad197 = ad198 := (by injection e198); replace p198 := eq_true p198; replace q198 := eq_true q198)))
              go_ret
              exact ⟨ew, bl1 GE189⟩
             ·rw [if_neg c32] at H
              have c32b0 : decide ((rd t192 t196) < (rd t192 a1)) = false := dF c32
              clear c32
              have H' := am H
              clear H
              obtain ⟨hcz36_0, hcz36_1, hcz36_2, hcz36_3, hcz36_4, hcz36_5, hcz36_6, hcz36_7, hcz36_8, hcz36_9, hcz36_10, hcz36_11, hcz36_12⟩ := cellsK13 BK189.out
              obtain ⟨hfz36_0, hfz36_1, hfz36_2, hfz36_3, hfz36_4, hfz36_5, hfz36_6, hfz36_7, hfz36_8, hfz36_9, hfz36_10, hfz36_11, hfz36_12⟩ := frozK13 BK189.out
              have p195 : 0 ≤ (x8_2 : Int) := oT asm
              have q195 : x8_2 < (l0_1.length : Int) := oT asm
              obtain ⟨ad195, e195, hx195_0, hx195_1, hx195_2, hx195_3, hx195_4, hx195_5⟩ := at_T39 HR0_1.out x8_2 p195 q195
              cases e195
              replace hx195_0 := hxk HB hx195_0
              replace hx195_1 := hxk HB hx195_1
              replace hx195_2 := hxk HB hx195_2
              replace hx195_3 := hxk HB hx195_3
              replace hx195_4 := hxk HB hx195_4
              replace hx195_5 := hxk HB hx195_5
              replace p195 := eq_true p195
              replace q195 := eq_true q195
              go_wp2_with (first | (go_at_call 20; (with_reducible refine (dr5_other.calls ((rd_T39 l0_1 x8_2).f0) ((rd_T39 l0_1 x8_2).f1) ((rd_T39 l0_1 x8_2).f2.f0) ((rd_T39 l0_1 x8_2).f2.f1) ((rd_T39 l0_1 x8_2).f3.f0) ((rd_T39 l0_1 x8_2).f3.f1) a1 t196 _ A26.out).mono ?_); rintro e w37 ⟨rfl, hb⟩; have n0_ := am (Kd.R_below (kr HO_7.out) hb); have n1_ := am (blk_below (bk BK189) hb); have n2_ := am (below_step (bl1 GE189) hb); clear HO_7; clear BK189; clear HB; have HO_7 := n0_; have BK189 := n1_; have HB := n2_; clear n0_ n1_ n2_; (try clear hb); (try clear hb2); (try clear hk); (try clear hi); obtain ⟨Ao38, co38, eo38⟩ := Kd.R_slice HO_7.out; subst eo38; have p197 : 0 ≤ (t196 : Int) := oT asm; have q197 : t196 < (t192.length : Int) := oT asm; obtain ⟨ad197, e197, hx197_0⟩ := Kd.at_int (Kd.R_reads' HO_7.out).2.2 t196 p197 q197; cases e197; replace p197 := eq_true p197; replace q197 := eq_true q197; have p198 : 0 ≤ (a1 : Int) := oT asm; have q198 : a1 < (t192.length : Int) := oT asm; obtain ⟨ad198, e198, hx198_0⟩ := Kd.at_int (Kd.R_reads' HO_7.out).2.2 a1 p198 q198; obtain rfl : ad197 = ad198 := (by injection e198); replace p198 := eq_true p198; replace q198 := eq_true q198))
              repeat (go_quiet (first | (go_at_call 20; (with_reducible refine (dr5_other.calls ((rd_T39 l0_1 x8_2).f0) ((rd_T39 l0_1 x8_2).f1) ((rd_T39 l0_1 x8_2).f2.f0) ((rd_T39 l0_1 x8_2).f2.f1) ((rd_T39 l0_1 x8_2).f3.f0) ((rd_T39 l0_1 x8_2).f3.f1) a1 t196 _ A26.out).mono ?_); rintro e w37 ⟨rfl, hb⟩; have n0_ := am (Kd.R_below (kr HO_7.out) hb); have n1_ := am (blk_below (bk BK189) hb); have n2_ := am (below_step (bl1 GE189) hb); clear HO_7; clear BK189; clear HB; have HO_7 := n0_; have BK189 := n1_; have HB := n2_; clear n0_ n1_ n2_; (try clear hb); (try clear hb2); (try clear hk); (try clear hi); obtain ⟨Ao38, co38, eo38⟩ := Kd.R_slice HO_7.out; subst eo38; have p197 : 0 ≤ (t196 : Int) := oT asm; have q197 : t196 < (t192.length : Int) := oT asm; obtain ⟨ad197, e197, hx197_0⟩ := Kd.at_int (Kd.R_reads' HO_7.out).2.2 t196 p197 q197; cases e197; replace p197 := eq_true p197; replace q197 := eq_true q197; have p198 : 0 ≤ (a1 : Int) := oT asm; have q198 : a1 < (t192.length : Int) := oT asm; obtain ⟨ad198, e198, hx198_0⟩ := Kd.at_int (Kd.R_reads' HO_7.out).2.2 a1 p198 q198; obtain rfl : ad197 = ad198 := (by injection e198); replace p198 := eq_true p198; replace q198 := eq_true q198)); try go_wp2_with (first | (go_at_call 20; (with_reducible refine (dr5_other.calls ((rd_T39 l0_1 x8_2).f0) ((rd_T39 l0_1 x8_2).f1) ((rd_T39 l0_1 x8_2).f2.f0) ((rd_T39 l0_1 x8_2).f2.f1) ((rd_T39 l0_1 x8_2).f3.f0) ((rd_T39 l0_1 x8_2).f3.f1) a1 t196 _ A26.out).mono ?_); rintro e w37 ⟨rfl, hb⟩; have n0_ := am (Kd.R_below (kr HO_7.out) hb); have n1_ := am (blk_below (bk BK189) hb); have n2_ := am (below_step (bl1 GE189) hb); clear HO_7; clear BK189; clear HB; have HO_7 := n0_; have BK189 := n1_; have HB := n2_; clear n0_ n1_ n2_; (try clear hb); (try clear hb2); (try clear hk); (try clear hi); obtain ⟨Ao38, co38, eo38⟩ := Kd.R_slice HO_7.out; subst eo38; have p197 : 0 ≤ (t196 : Int) := oT asm; have q197 : t196 < (t192.length : Int) := oT asm; obtain ⟨ad197, e197, hx197_0⟩ := Kd.at_int (Kd.R_reads' HO_7.out).2.2 t196 p197 q197; cases e197; replace p197 := eq_true p197; replace q197 := eq_true q197; have p198 : 0 ≤ (a1 : Int) := oT asm; have q198 : a1 < (t192.length : Int) := oT asm; obtain ⟨ad198, e198, hx198_0⟩ := Kd.at_int (Kd.R_reads' HO_7.out).2.2 a1 p198 q198; obtain rfl : ad197 = ad198 := (by injection e198); replace p198 := eq_true p198; replace q198 := eq_true q198)))
              go_roundg k2
              case measure => have := HJ3.out; have := HK2.out; omega
              case rel => exact ⟨(wrap64 (x8_2 + 1)), bx, H', ⟨by have := HJ3.out; have := HK2.out; omega⟩, ⟨kr HO_7.out⟩, ⟨bk BK189⟩, ⟨bl1 GE189⟩⟩
            ·rw [if_neg c31] at H
             exact absurd H (by simp)
           ·rw [if_neg c30] at H
            exact absurd H (by simp)
          ·rw [if_neg c29] at H
           exact absurd H (by simp)
         ·rw [if_neg c28] at H
          exact absurd H (by simp)
        ·rw [if_neg c27] at H
         have c27b0 : decide (0 ≤ t196) = false := dF c27
         clear c27
         have H' := am H
         clear H
         obtain ⟨hcz39_0, hcz39_1, hcz39_2, hcz39_3, hcz39_4, hcz39_5, hcz39_6, hcz39_7, hcz39_8, hcz39_9, hcz39_10, hcz39_11, hcz39_12⟩ := cellsK13 BK189.out
         obtain ⟨hfz39_0, hfz39_1, hfz39_2, hfz39_3, hfz39_4, hfz39_5, hfz39_6, hfz39_7, hfz39_8, hfz39_9, hfz39_10, hfz39_11, hfz39_12⟩ := frozK13 BK189.out
         have p195 : 0 ≤ (x8_2 : Int) := oT asm
         have q195 : x8_2 < (l0_1.length : Int) := oT asm
         obtain ⟨ad195, e195, hx195_0, hx195_1, hx195_2, hx195_3, hx195_4, hx195_5⟩ := at_T39 HR0_1.out x8_2 p195 q195
         cases e195
         replace hx195_0 := hxk HB hx195_0
         replace hx195_1 := hxk HB hx195_1
         replace hx195_2 := hxk HB hx195_2
         replace hx195_3 := hxk HB hx195_3
         replace hx195_4 := hxk HB hx195_4
         replace hx195_5 := hxk HB hx195_5
         replace p195 := eq_true p195
         replace q195 := eq_true q195
         go_wp2_with (first | (go_at_call 20; (with_reducible refine (dr5_other.calls ((rd_T39 l0_1 x8_2).f0) ((rd_T39 l0_1 x8_2).f1) ((rd_T39 l0_1 x8_2).f2.f0) ((rd_T39 l0_1 x8_2).f2.f1) ((rd_T39 l0_1 x8_2).f3.f0) ((rd_T39 l0_1 x8_2).f3.f1) a1 t196 _ A26.out).mono ?_); rintro e w40 ⟨rfl, hb⟩; have n0_ := am (Kd.R_below (kr HO_7.out) hb); have n1_ := am (blk_below (bk BK189) hb); have n2_ := am (below_step (bl1 GE189) hb); clear HO_7; clear BK189; clear HB; have HO_7 := n0_; have BK189 := n1_; have HB := n2_; clear n0_ n1_ n2_; (try clear hb); (try clear hb2); (try clear hk); (try clear hi)))
         repeat (go_quiet (first | (go_at_call 20; (with_reducible refine (dr5_other.calls ((rd_T39 l0_1 x8_2).f0) ((rd_T39 l0_1 x8_2).f1) ((rd_T39 l0_1 x8_2).f2.f0) ((rd_T39 l0_1 x8_2).f2.f1) ((rd_T39 l0_1 x8_2).f3.f0) ((rd_T39 l0_1 x8_2).f3.f1) a1 t196 _ A26.out).mono ?_); rintro e w40 ⟨rfl, hb⟩; have n0_ := am (Kd.R_below (kr HO_7.out) hb); have n1_ := am (blk_below (bk BK189) hb); have n2_ := am (below_step (bl1 GE189) hb); clear HO_7; clear BK189; clear HB; have HO_7 := n0_; have BK189 := n1_; have HB := n2_; clear n0_ n1_ n2_; (try clear hb); (try clear hb2); (try clear hk); (try clear hi))); try go_wp2_with (first | (go_at_call 20; (with_reducible refine (dr5_other.calls ((rd_T39 l0_1 x8_2).f0) ((rd_T39 l0_1 x8_2).f1) ((rd_T39 l0_1 x8_2).f2.f0) ((rd_T39 l0_1 x8_2).f2.f1) ((rd_T39 l0_1 x8_2).f3.f0) ((rd_T39 l0_1 x8_2).f3.f1) a1 t196 _ A26.out).mono ?_); rintro e w40 ⟨rfl, hb⟩; have n0_ := am (Kd.R_below (kr HO_7.out) hb); have n1_ := am (blk_below (bk BK189) hb); have n2_ := am (below_step (bl1 GE189) hb); clear HO_7; clear BK189; clear HB; have HO_7 := n0_; have BK189 := n1_; have HB := n2_; clear n0_ n1_ n2_; (try clear hb); (try clear hb2); (try clear hk); (try clear hi))))
         go_roundg k2
         case measure => have := HJ3.out; have := HK2.out; omega
         case rel => exact ⟨(wrap64 (x8_2 + 1)), bx, H', ⟨by have := HJ3.out; have := HK2.out; omega⟩, ⟨kr HO_7.out⟩, ⟨bk BK189⟩, ⟨bl1 GE189⟩⟩
       ·rw [if_neg c25] at H
        exact absurd H (by simp)
      ·rw [if_neg c24] at H
       have c24b0 : decide (x8_2 < (l0_1.length : Int)) = false := dF c24
       clear c24
       obtain rfl := Option.some.inj H
       obtain ⟨hcz41_0, hcz41_1, hcz41_2, hcz41_3, hcz41_4, hcz41_5, hcz41_6, hcz41_7, hcz41_8, hcz41_9, hcz41_10, hcz41_11, hcz41_12⟩ := cellsK13 BK189.out
       obtain ⟨hfz41_0, hfz41_1, hfz41_2, hfz41_3, hfz41_4, hfz41_5, hfz41_6, hfz41_7, hfz41_8, hfz41_9, hfz41_10, hfz41_11, hfz41_12⟩ := frozK13 BK189.out
       go_wp2
       repeat (go_quiet (fail); try go_wp2)
       go_ret
       exact ⟨ew, bl1 GE189⟩
end Go.Proofs.YtbefbhghmommhaaDoor.MWo
