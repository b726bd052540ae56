/- Texts of this claim, laid together by a program (wip/g/merge5.py): MWox34, Hx, MWox35, MWox36, MWox37, Hv, MWox38, Hk, HPp, MWox40. -/
import Derived.Test.YtbefbhghmommhaaDoorZHz4
import Derived.Test.YtbefbhghmommhaaDoorZHz13
import Derived.Lib.Strings
import Derived.Lib.Slices
import Derived.Lib.Walk
import Derived.Test.YtbefbhghmommhaaDoorZHz7
import Derived.Test.YtbefbhghmommhaaDoorZHz11
import Derived.Deep.QuietTactic
namespace Go.Proofs.YtbefbhghmommhaaDoor.MWo
open Go.RowKit Go.Proofs.YtbefbhghmommhaaDoorW.PrintWords Go.Proofs.YtbefbhghmommhaaDoorW.PrintLast Go.Proofs.YtbefbhghmommhaaDoorW.PrintMore
attribute [local go_sem] mp_u32s mp_u32m mp_u8s mp_u8m max2_int min2_int max_two min_two max_three min_three max_four min_four
set_option linter.unusedVariables false
set_option linter.unusedSimpArgs false
def hops_Way.l0 : Nat → Int → Int → List Int → List (S43) → List (S39) → Int → Int → Int → Int → Int → Int → Int → Int → Int → Int → Int → Option (List Int)
 | 0, _, _, _, _, _, _, _, _, _, _, _, _, _, _, _, _ => none
 | k + 1, x1, x2, x7, x143000, x143001, x143002, x143003, x143004, x143005, x143006, x143007, x143008, x143009, x143010, x143011, x143012 => if x1 = x2 then (some x7) else ((hops_Over.f x143000 x143001 x143002 x143003 x143004 x143005 x143006 x143007 x143008 x143009 x143010 x143011 x143012 x1 x2).bind fun t144 => (if x7.length < 17592186044416 then (if 0 ≤ t144 then (if t144 < (x143001.length : Int) then ((hops_across.f ((rd_T39 x143001 t144).f0) ((rd_T39 x143001 t144).f1) ((rd_T39 x143001 t144).f2.f0) ((rd_T39 x143001 t144).f2.f1) ((rd_T39 x143001 t144).f3.f0) ((rd_T39 x143001 t144).f3.f1) x1).bind fun t149 => (hops_Way.l0 k t149 x2 (x7 ++ [t144]) x143000 x143001 x143002 x143003 x143004 x143005 x143006 x143007 x143008 x143009 x143010 x143011 x143012)) else (none)) else (none)) else (none)))
def hops_Way.f (k : Nat) (l0_0 : List (S43)) (l0_1 : List (S39)) (a0_2 : Int) (a0_3 : Int) (a0_4 : Int) (a0_5 : Int) (a0_6 : Int) (a0_7 : Int) (a0_8 : Int) (a0_9 : Int) (a0_10 : Int) (a0_11 : Int) (a0_12 : Int) (a1 : Int) (a2 : Int) : Option (List Int) := (hops_right.f l0_0 l0_1 a0_2 a0_3 a0_4 a0_5 a0_6 a0_7 a0_8 a0_9 a0_10 a0_11 a0_12 a1 a2).bind fun t143 => (if t143 = true then (hops_Way.l0 k a1 a2 ([] : List Int) l0_0 l0_1 a0_2 a0_3 a0_4 a0_5 a0_6 a0_7 a0_8 a0_9 a0_10 a0_11 a0_12) else (some ([] : List Int)))
set_option maxHeartbeats 8000000 in
set_option maxRecDepth 100000 in
theorem hops_Way.calls (k : Nat) (A0_0 : Option Addr) (c0_0 : Nat) (l0_0 : List (S43)) (A0_1 : Option Addr) (c0_1 : Nat) (l0_1 : List (S39)) (a0_2 : Int) (a0_3 : Int) (a0_4 : Int) (a0_5 : Int) (a0_6 : Int) (a0_7 : Int) (a0_8 : Int) (a0_9 : Int) (a0_10 : Int) (a0_11 : Int) (a0_12 : Int) (a1 : Int) (a2 : Int) (r : List Int) (w : World) (hr0_0 : Kd.C k43 w A0_0 l0_0.length l0_0) (hc0_0 : l0_0.length ≤ c0_0) (hr0_1 : Kd.C k39 w A0_1 l0_1.length l0_1) (hc0_1 : l0_1.length ≤ c0_1) (h : hops_Way.f k l0_0 l0_1 a0_2 a0_3 a0_4 a0_5 a0_6 a0_7 a0_8 a0_9 a0_10 a0_11 a0_12 a1 a2 = some r) (hG : Gv w) :
  Calls Tryd.prog 10 #[.agg #[.slice A0_0 l0_0.length c0_0, .slice A0_1 l0_1.length c0_1, .int .i64 a0_2, .int .i64 a0_3, .int .i64 a0_4, .int .i64 a0_5, .int .i64 a0_6, .int .i64 a0_7, .int .i64 a0_8, .int .i64 a0_9, .int .i64 a0_10, .int .i64 a0_11, .int .i64 a0_12], .int .i64 a1, .int .i64 a2] w fun e w' => ∃ v0_ : Value, e = .returned (v0_) ∧ Kd.R (Kd.int .i64) 3 w' w.heap.size (fun _ => True) v0_ r ∧ Below w.heap.size w w' := by
 have HG := am hG
 clear hG
 have hu25 := Tryd.underlying25
 have hu39 := Tryd.underlying39
 have HR0_0 := am hr0_0
 have HC0_0 := am hc0_0
 clear hr0_0 hc0_0
 have HR0_1 := am hr0_1
 have HC0_1 := am hc0_1
 clear hr0_1 hc0_1
 have HB := am (Below.refl w.heap.size w)
 have H : ((hops_right.f l0_0 l0_1 a0_2 a0_3 a0_4 a0_5 a0_6 a0_7 a0_8 a0_9 a0_10 a0_11 a0_12 a1 a2).bind fun t143 => (if t143 = true then (hops_Way.l0 k a1 a2 ([] : List Int) l0_0 l0_1 a0_2 a0_3 a0_4 a0_5 a0_6 a0_7 a0_8 a0_9 a0_10 a0_11 a0_12) else (some ([] : List Int)))) = some r := h
 clear h
 replace H := bS H
 obtain ⟨t143, A40, H⟩ := H
 replace H : (if t143 = true then (hops_Way.l0 k a1 a2 ([] : List Int) l0_0 l0_1 a0_2 a0_3 a0_4 a0_5 a0_6 a0_7 a0_8 a0_9 a0_10 a0_11 a0_12) else (some ([] : List Int))) = some r := H
 have A4 := am A40
 clear A40
 by_cases c5 : t143 = true
 ·subst c5
  have H1 : (hops_Way.l0 k a1 a2 ([] : List Int) l0_0 l0_1 a0_2 a0_3 a0_4 a0_5 a0_6 a0_7 a0_8 a0_9 a0_10 a0_11 a0_12) = some r := by rw [if_pos rfl] at H; exact H
  clear H
  have H := H1
  clear H1
  have H' := am H
  clear H
  go_enter Tryd.func10, Tryd.ntmps10
  go_wp2_with (first | ((with_reducible refine gate_dst (N := 3) rfl ?_); refine bxe 3 #[.slice A0_0 l0_0.length c0_0, .slice A0_1 l0_1.length c0_1, .int .i64 a0_2, .int .i64 a0_3, .int .i64 a0_4, .int .i64 a0_5, .int .i64 a0_6, .int .i64 a0_7, .int .i64 a0_8, .int .i64 a0_9, .int .i64 a0_10, .int .i64 a0_11, .int .i64 a0_12] 25 ?_; intro gb142 hg w6 hbox hb; have n0_ := am (below_step bl0 hb); have n1_ := am (hbox); have n2_ := am (gw0 hg); have n3_ := am (gw0 hg); clear HB; have HB := n0_; have BK142 := n1_; have GW142 := n2_; have GE142 := n3_; clear n0_ n1_ n2_ n3_; clear hb hbox hg; obtain ⟨hcz7_0, hcz7_1, hcz7_2, hcz7_3, hcz7_4, hcz7_5, hcz7_6, hcz7_7, hcz7_8, hcz7_9, hcz7_10, hcz7_11, hcz7_12⟩ := cellsK13 BK142.out; obtain ⟨hfz7_0, hfz7_1, hfz7_2, hfz7_3, hfz7_4, hfz7_5, hfz7_6, hfz7_7, hfz7_8, hfz7_9, hfz7_10, hfz7_11, hfz7_12⟩ := frozK13 BK142.out) | ((with_reducible refine gate_callee (f := 15) rfl ?_); refine goesL_ (some 12) rfl rfl Tryd.func15 (by kernel_rfl) rfl #[.agg #[.slice A0_0 l0_0.length c0_0, .slice A0_1 l0_1.length c0_1, .int .i64 a0_2, .int .i64 a0_3, .int .i64 a0_4, .int .i64 a0_5, .int .i64 a0_6, .int .i64 a0_7, .int .i64 a0_8, .int .i64 a0_9, .int .i64 a0_10, .int .i64 a0_11, .int .i64 a0_12], .int .i64 a1, .int .i64 a2] rfl lm ?_; (with_reducible refine (hops_right.calls _ _ l0_0 _ _ l0_1 a0_2 a0_3 a0_4 a0_5 a0_6 a0_7 a0_8 a0_9 a0_10 a0_11 a0_12 a1 a2 true _ ?side1 ?side2 ?side3 ?side4 A4.out (Gv.below (k := 0) HG.out (bl1 GE142))).mono ?_); (case side1 => exact kc HR0_0); (case side2 => exact HC0_0.out); (case side3 => exact kc HR0_1); (case side4 => exact HC0_1.out); rintro e w8 ⟨rfl, hb⟩; refine ⟨_, rfl, ?_⟩; have n0_ := am (blk_below (bk BK142) hb); have n1_ := am (below_step (bl1 GE142) hb); clear BK142; clear HB; have BK142 := n0_; have HB := n1_; clear n0_ n1_; (try clear hb); (try clear hb2); (try clear hk); (try clear hi)))
  go_loopg [1, 7] k (fun kq v1 v7 w' => ∃ (x1_1 : Int) (x7_1 : List Int), v1 = .int .i64 x1_1 ∧ Aside0 (hops_Way.l0 kq x1_1 a2 x7_1 l0_0 l0_1 a0_2 a0_3 a0_4 a0_5 a0_6 a0_7 a0_8 a0_9 a0_10 a0_11 a0_12 = some r) ∧ Aside0 (kq ≤ k) ∧ Aside0 (Kd.R (Kd.int .i64) 3 w' w.heap.size (fun _ => True) v7 x7_1) ∧ Aside0 (w'.heap[gb142]? = some (.cells #[(.slice A0_0 l0_0.length c0_0), (.slice A0_1 l0_1.length c0_1), .int .i64 a0_2, .int .i64 a0_3, .int .i64 a0_4, .int .i64 a0_5, .int .i64 a0_6, .int .i64 a0_7, .int .i64 a0_8, .int .i64 a0_9, .int .i64 a0_10, .int .i64 a0_11, .int .i64 a0_12] 25 (0, 0))) ∧ Aside0 (Below w.heap.size w w'))
  case atStart => exact ⟨(a1), (([] : List Int)), bx, H', ⟨Nat.le_refl _⟩, ⟨by first | exact Kd.R_nil _ _ _ _ _ | exact Kd.N_nil _ _ _ _ _ | exact Kd.V_nil _ _ _ _ _ | exact Kd.Q_nil _ _ _ _ _ | exact Kd.S_nil _ _ _ _ _⟩, ⟨bk BK142⟩, ⟨bl1 GE142⟩⟩
  case round =>
   clear H'
   try clear c1
   try clear p2
   try clear c5
   try clear hcz7_0 hcz7_1 hcz7_10 hcz7_11 hcz7_12 hcz7_2 hcz7_3 hcz7_4 hcz7_5 hcz7_6 hcz7_7 hcz7_8 hcz7_9
   try clear hfz7_0 hfz7_1 hfz7_10 hfz7_11 hfz7_12 hfz7_2 hfz7_3 hfz7_4 hfz7_5 hfz7_6 hfz7_7 hfz7_8 hfz7_9
   obtain ⟨x1_1, x7_1, rfl, HA, HK1, HO_7, BK142, HB⟩ := hrel
   cases gk with
   | zero => exact absurd HA.out (by simp [hops_Way.l0])
   | succ k1 =>
    have H := HA.out
    clear HA
    simp only [hops_Way.l0] at H
    by_cases c9 : x1_1 = a2
    ·rw [if_pos c9] at H
     have c9b0 : (x1_1 == a2) = true := beq_iff_eq.mpr c9
     have c9b1 : (x1_1 != a2) = false := bne_eq_false_iff_eq.mpr c9
     clear c9
     obtain rfl := Option.some.inj H
     go_wp2
     go_ret
     exact ⟨_, ew, kr HO_7.out, bl1 GE142⟩
    ·rw [if_neg c9] at H
     have c9b0 : (x1_1 == a2) = false := beq_eq_false_iff_ne.mpr c9
     have c9b1 : (x1_1 != a2) = true := bne_iff_ne.mpr c9
     replace H := bS H
     obtain ⟨t144, A100, H⟩ := H
     replace H : (if x7_1.length < 17592186044416 then (if 0 ≤ t144 then (if t144 < (l0_1.length : Int) then ((hops_across.f ((rd_T39 l0_1 t144).f0) ((rd_T39 l0_1 t144).f1) ((rd_T39 l0_1 t144).f2.f0) ((rd_T39 l0_1 t144).f2.f1) ((rd_T39 l0_1 t144).f3.f0) ((rd_T39 l0_1 t144).f3.f1) x1_1).bind fun t149 => (hops_Way.l0 k1 t149 a2 (x7_1 ++ [t144]) l0_0 l0_1 a0_2 a0_3 a0_4 a0_5 a0_6 a0_7 a0_8 a0_9 a0_10 a0_11 a0_12)) else (none)) else (none)) else (none)) = some r := H
     have A10 := am A100
     clear A100
     by_cases c11 : x7_1.length < 17592186044416
     ·rw [if_pos c11] at H
      have LMc11 := am c11
      clear c11
      obtain ⟨y145, hy145⟩ : ∃ y_ : List Int, y_ = (x7_1 ++ [t144]) := ⟨_, rfl⟩
      replace H : (if 0 ≤ t144 then (if t144 < (l0_1.length : Int) then ((hops_across.f ((rd_T39 l0_1 t144).f0) ((rd_T39 l0_1 t144).f1) ((rd_T39 l0_1 t144).f2.f0) ((rd_T39 l0_1 t144).f2.f1) ((rd_T39 l0_1 t144).f3.f0) ((rd_T39 l0_1 t144).f3.f1) x1_1).bind fun t149 => (hops_Way.l0 k1 t149 a2 y145 l0_0 l0_1 a0_2 a0_3 a0_4 a0_5 a0_6 a0_7 a0_8 a0_9 a0_10 a0_11 a0_12)) else (none)) else (none)) = some r := by first | (rw [hy145]; with_reducible exact H) | (have H2_ := (Option.bind_some _ _).symm.trans H; rw [hy145]; with_reducible exact H2_) | (have H2_ := (Option.bind_some _ _).symm.trans H; with_reducible exact H2_) | with_reducible exact H | (rw [hy145]; exact H) | exact H
      have Ny145 := am hy145
      clear hy145
      by_cases c12 : 0 ≤ t144
      ·rw [if_pos c12] at H
       have c12b0 : decide (0 ≤ t144) = true := dT c12
       clear c12
       by_cases c13 : t144 < (l0_1.length : Int)
       ·rw [if_pos c13] at H
        have c13b0 : decide (t144 < (l0_1.length : Int)) = true := dT c13
        clear c13
        replace H := bS H
        obtain ⟨t149, A140, H⟩ := H
        replace H : (hops_Way.l0 k1 t149 a2 y145 l0_0 l0_1 a0_2 a0_3 a0_4 a0_5 a0_6 a0_7 a0_8 a0_9 a0_10 a0_11 a0_12) = some r := H
        have A14 := am A140
        clear A140
        have H' := am H
        clear H
        obtain ⟨hcz15_0, hcz15_1, hcz15_2, hcz15_3, hcz15_4, hcz15_5, hcz15_6, hcz15_7, hcz15_8, hcz15_9, hcz15_10, hcz15_11, hcz15_12⟩ := cellsK13 BK142.out
        obtain ⟨hfz15_0, hfz15_1, hfz15_2, hfz15_3, hfz15_4, hfz15_5, hfz15_6, hfz15_7, hfz15_8, hfz15_9, hfz15_10, hfz15_11, hfz15_12⟩ := frozK13 BK142.out
        go_wp2_with (first | ((with_reducible refine gate_callee (f := 19) rfl ?_); refine goesL_ (some 20) rfl rfl Tryd.func19 (by kernel_rfl) rfl #[.agg #[.slice A0_0 l0_0.length c0_0, .slice A0_1 l0_1.length c0_1, .int .i64 a0_2, .int .i64 a0_3, .int .i64 a0_4, .int .i64 a0_5, .int .i64 a0_6, .int .i64 a0_7, .int .i64 a0_8, .int .i64 a0_9, .int .i64 a0_10, .int .i64 a0_11, .int .i64 a0_12], .int .i64 x1_1, .int .i64 a2] rfl lm ?_; (with_reducible refine (hops_Over.calls _ _ l0_0 _ _ l0_1 a0_2 a0_3 a0_4 a0_5 a0_6 a0_7 a0_8 a0_9 a0_10 a0_11 a0_12 x1_1 a2 t144 _ ?side1 ?side2 ?side3 ?side4 A10.out).mono ?_); (case side1 => exact kc HR0_0); (case side2 => exact HC0_0.out); (case side3 => exact kc HR0_1); (case side4 => exact HC0_1.out); rintro e w16 ⟨rfl, hb⟩; refine ⟨_, rfl, ?_⟩; have n0_ := am (Kd.R_below (kr HO_7.out) hb); have n1_ := am (blk_below (bk BK142) hb); have n2_ := am (below_step (bl1 GE142) hb); clear HO_7; clear BK142; clear HB; have HO_7 := n0_; have BK142 := n1_; have HB := n2_; clear n0_ n1_ n2_; (try clear hb); (try clear hb2); (try clear hk); (try clear hi)) | ((with_reducible refine gate_builtin (b := .append) (xs := #[.tmp 21, .tmp 23]) rfl ?_); at_builtin; refine Kd.R_append (Kd.int .i64) (w0 := w) w.heap.size rfl (.tmp 21) (.tmp 23) 29 3 (.int .i64 0) 8 rfl Tryd.underlying29 info3 rfl (by decide) (by omega) u7 x7_1 t144 [.int .i64 t144] (fun _ => True) (fun _ => False) rfl rfl ?aP (fun _ hk => hk.elim) ?aF ?aO ?aB ?aS ?aL ?_; (case aP => exact rfl); (case aB => exact (bl1 GE142)); (case aF => exact (fun _ _ => trivial)); (case aO => exact (kr HO_7.out)); (case aS => exact (below_size (bl1 GE142))); (case aL => have := LMc11.out; omega); intro v146 w17 ho hb hg hat; rw [← Ny145.out] at ho; have n0_ := am (blk_grown (bk BK142) hg (Kd.R_ne HO_7.out BK142.out (by decide))); have n1_ := am (hb); have n2_ := am (ho); clear BK142; clear HB; clear HO_7; have BK142 := n0_; have HB := n1_; have HO147 := n2_; clear n0_ n1_ n2_; clear ho hb hg hat; obtain ⟨hcz18_0, hcz18_1, hcz18_2, hcz18_3, hcz18_4, hcz18_5, hcz18_6, hcz18_7, hcz18_8, hcz18_9, hcz18_10, hcz18_11, hcz18_12⟩ := cellsK13 BK142.out; obtain ⟨hfz18_0, hfz18_1, hfz18_2, hfz18_3, hfz18_4, hfz18_5, hfz18_6, hfz18_7, hfz18_8, hfz18_9, hfz18_10, hfz18_11, hfz18_12⟩ := frozK13 BK142.out; have p148 : 0 ≤ (t144 : Int) := oT asm; have q148 : t144 < (l0_1.length : Int) := oT asm; obtain ⟨ad148, e148, hx148_0, hx148_1, hx148_2, hx148_3, hx148_4, hx148_5⟩ := at_T39 HR0_1.out t144 p148 q148; cases e148; replace hx148_0 := hxk HB hx148_0; replace hx148_1 := hxk HB hx148_1; replace hx148_2 := hxk HB hx148_2; replace hx148_3 := hxk HB hx148_3; replace hx148_4 := hxk HB hx148_4; replace hx148_5 := hxk HB hx148_5; replace p148 := eq_true p148; replace q148 := eq_true q148) | ((with_reducible refine gate_callee (f := 21) rfl ?_); refine goesL_ (some 31) rfl rfl Tryd.func21 (by kernel_rfl) rfl #[.agg #[.int .i64 ((rd_T39 l0_1 t144).f0), .int .i64 ((rd_T39 l0_1 t144).f1), .int .i64 ((rd_T39 l0_1 t144).f2.f0), .int .i64 ((rd_T39 l0_1 t144).f2.f1), .int .i64 ((rd_T39 l0_1 t144).f3.f0), .int .i64 ((rd_T39 l0_1 t144).f3.f1)], .int .i64 x1_1] rfl lm ?_; (with_reducible refine (hops_across.calls ((rd_T39 l0_1 t144).f0) ((rd_T39 l0_1 t144).f1) ((rd_T39 l0_1 t144).f2.f0) ((rd_T39 l0_1 t144).f2.f1) ((rd_T39 l0_1 t144).f3.f0) ((rd_T39 l0_1 t144).f3.f1) x1_1 t149 _ A14.out).mono ?_); rintro e w19 ⟨rfl, hb⟩; refine ⟨_, rfl, ?_⟩; have n0_ := am (Kd.R_below (kr HO147.out) hb); have n1_ := am (blk_below (bk BK142) hb); have n2_ := am (below_step (bl1 GE142) hb); clear HO147; clear BK142; clear HB; have HO147 := n0_; have BK142 := n1_; have HB := n2_; clear n0_ n1_ n2_; (try clear hb); (try clear hb2); (try clear hk); (try clear hi)))
        go_roundg k1
        case measure => have := HK1.out; omega
        case rel => exact ⟨(t149), (y145), bx, H', ⟨by have := HK1.out; omega⟩, ⟨kr HO147.out⟩, ⟨bk BK142⟩, ⟨bl1 GE142⟩⟩
       ·rw [if_neg c13] at H
        exact absurd H (by simp)
      ·rw [if_neg c12] at H
       exact absurd H (by simp)
     ·rw [if_neg c11] at H
      exact absurd H (by simp)
 ·replace c5 := Bool.eq_false_iff.mpr c5
  subst c5
  have H1 : (some ([] : List Int)) = some r := by rw [if_neg (show ¬ (false = true) by decide)] at H; exact H
  clear H
  have H := H1
  clear H1
  obtain rfl := Option.some.inj H
  go_enter Tryd.func10, Tryd.ntmps10
  go_wp2_with (first | ((with_reducible refine gate_dst (N := 3) rfl ?_); refine bxe 3 #[.slice A0_0 l0_0.length c0_0, .slice A0_1 l0_1.length c0_1, .int .i64 a0_2, .int .i64 a0_3, .int .i64 a0_4, .int .i64 a0_5, .int .i64 a0_6, .int .i64 a0_7, .int .i64 a0_8, .int .i64 a0_9, .int .i64 a0_10, .int .i64 a0_11, .int .i64 a0_12] 25 ?_; intro gb142 hg w20 hbox hb; have n0_ := am (below_step bl0 hb); have n1_ := am (hbox); have n2_ := am (gw0 hg); have n3_ := am (gw0 hg); clear HB; have HB := n0_; have BK142 := n1_; have GW142 := n2_; have GE142 := n3_; clear n0_ n1_ n2_ n3_; clear hb hbox hg; obtain ⟨hcz21_0, hcz21_1, hcz21_2, hcz21_3, hcz21_4, hcz21_5, hcz21_6, hcz21_7, hcz21_8, hcz21_9, hcz21_10, hcz21_11, hcz21_12⟩ := cellsK13 BK142.out; obtain ⟨hfz21_0, hfz21_1, hfz21_2, hfz21_3, hfz21_4, hfz21_5, hfz21_6, hfz21_7, hfz21_8, hfz21_9, hfz21_10, hfz21_11, hfz21_12⟩ := frozK13 BK142.out) | ((with_reducible refine gate_callee (f := 15) rfl ?_); refine goesL_ (some 12) rfl rfl Tryd.func15 (by kernel_rfl) rfl #[.agg #[.slice A0_0 l0_0.length c0_0, .slice A0_1 l0_1.length c0_1, .int .i64 a0_2, .int .i64 a0_3, .int .i64 a0_4, .int .i64 a0_5, .int .i64 a0_6, .int .i64 a0_7, .int .i64 a0_8, .int .i64 a0_9, .int .i64 a0_10, .int .i64 a0_11, .int .i64 a0_12], .int .i64 a1, .int .i64 a2] rfl lm ?_; (with_reducible refine (hops_right.calls _ _ l0_0 _ _ l0_1 a0_2 a0_3 a0_4 a0_5 a0_6 a0_7 a0_8 a0_9 a0_10 a0_11 a0_12 a1 a2 false _ ?side1 ?side2 ?side3 ?side4 A4.out (Gv.below (k := 0) HG.out (bl1 GE142))).mono ?_); (case side1 => exact kc HR0_0); (case side2 => exact HC0_0.out); (case side3 => exact kc HR0_1); (case side4 => exact HC0_1.out); rintro e w22 ⟨rfl, hb⟩; refine ⟨_, rfl, ?_⟩; have n0_ := am (blk_below (bk BK142) hb); have n1_ := am (below_step (bl1 GE142) hb); clear BK142; clear HB; have BK142 := n0_; have HB := n1_; clear n0_ n1_; (try clear hb); (try clear hb2); (try clear hk); (try clear hi)))
  go_ret
  exact ⟨_, ew, by first | exact Kd.R_nil _ _ _ _ _ | exact Kd.N_nil _ _ _ _ _ | exact Kd.V_nil _ _ _ _ _ | exact Kd.Q_nil _ _ _ _ _ | exact Kd.S_nil _ _ _ _ _, bl1 GE142⟩
end Go.Proofs.YtbefbhghmommhaaDoor.MWo
set_option linter.unusedVariables false
set_option linter.unusedSimpArgs false
namespace Go.Proofs.YtbefbhghmommhaaDoor.MWo
open Go.RowKit Go.Proofs.YtbefbhghmommhaaDoorW.PrintWords Go.Proofs.YtbefbhghmommhaaDoorW.PrintLast Go.Proofs.YtbefbhghmommhaaDoorW.PrintMore
theorem first_ {l : List Int} {n : Nat} (hn : 0 < n) (hnn : l.length = n) : Value.int .i64 (l[0]'(by omega)) = Value.int .i64 (Lib.maxOf (l.take 1)) := by
 have hl : 0 < l.length := by omega
 rw [Lib.maxOf_one]
 simp [hl]
set_option maxHeartbeats 2000000 in
set_option maxRecDepth 100000 in
theorem max_walk (A0 : Option Addr) (c0 : Nat) (l : List Int) (w : World) (hr : Kd.C (Kd.int .i64) w A0 l.length l) (hn : 0 < l.length) (hbig : l.length ≤ 1000000) :
  Calls Tryd.prog 23 #[.slice A0 l.length c0] w fun e w' => e = .returned (.int .i64 (Lib.maxOf l)) ∧ w' = w := by
 obtain ⟨ad, rfl, hx⟩ := Kd.at_int hr 0 (by omega) (by omega)
 have hc : Aside0 (∀ j, j < l.length → w.cell? (ad.add j) = some (.int .i64 (l.getD j 0))) := ⟨fun j hj => by
  obtain ⟨ad', e, h⟩ := Kd.at_int hr (j : Int) (by omega) (by omega)
  cases e
  simpa [rd] using h⟩
 have h0 : w.cell? ad = some (.int .i64 (l.getD 0 0)) := by have h := hc.out 0 hn; simpa [Addr.add] using h
 clear hr hx
 have hlast : Lib.maxOf l = Lib.maxOf (l.take l.length) := by simp
 rw [hlast]
 clear hlast
 obtain ⟨n, hnn⟩ : ∃ n, l.length = n := ⟨_, rfl⟩
 rw [hnn] at hn hbig hc ⊢
 go_enter Tryd.func23, Tryd.ntmps23
 go_wp2
 go_loop [3, 4] (fun m i => ∃ k : Nat, 0 < k ∧ k ≤ n ∧ i = .int .i64 k ∧ m = .int .i64 (Lib.maxOf (l.take k))) (fun _ i => match i with | .int _ q => n - q.toNat | _ => 0)
 case atStart => exact ⟨1, Nat.one_pos, hn, rfl, first_ hn hnn⟩
 case round =>
  obtain ⟨k, hk0, hk, rfl, rfl⟩ := hrel
  have hcell : k < n → w.cell? (ad.add k) = some (.int .i64 (l.getD k 0)) := fun h => hc.out k h
  go_wp2
  ·have hlt : k < n := by assumption
   have hkl : k < l.length := by omega
   refine ⟨⟨k + 1, Nat.succ_pos k, by omega, by congr 1, ?_⟩, ?_⟩
   ·rw [Lib.maxOf_step l k hk0 (by omega)]
    simp [hkl]
   ·show n - ((k : Int) + 1).toNat < n - ((k : Int)).toNat
    omega
  ·have hge : ¬ k < n := by assumption
   have : k = n := by omega
   subst this
   go_ret
   exact ⟨rfl, rfl⟩
end Go.Proofs.YtbefbhghmommhaaDoor.MWo
namespace Go.Proofs.YtbefbhghmommhaaDoor.MWo
open Go.RowKit Go.Proofs.YtbefbhghmommhaaDoorW.PrintWords Go.Proofs.YtbefbhghmommhaaDoorW.PrintLast Go.Proofs.YtbefbhghmommhaaDoorW.PrintMore
attribute [local go_sem] mp_u32s mp_u32m mp_u8s mp_u8m max2_int min2_int max_two min_two max_three min_three max_four min_four
set_option linter.unusedVariables false
set_option linter.unusedSimpArgs false
def slices_Max_int_int.f (l0 : List Int) : Option Int := if 0 < l0.length ∧ l0.length ≤ 1000000 then some (Lib.maxOf l0) else none
theorem slices_Max_int_int.calls (A0 : Option Addr) (c0 : Nat) (l0 : List Int) (r : Int) (w : World) (hr0 : Kd.C (Kd.int .i64) w A0 l0.length l0) (hc0 : l0.length ≤ c0) (h : slices_Max_int_int.f l0 = some r) :
  Calls Tryd.prog 23 #[.slice A0 l0.length c0] w fun e w' => e = .returned (.int .i64 r) ∧ Drawn0 w w' := by
 unfold slices_Max_int_int.f at h
 split at h
 ·rename_i hc
  injection h with h
  subst h
  refine (max_walk A0 c0 l0 w hr0 hc.1 hc.2).mono ?_
  rintro e w' ⟨rfl, rfl⟩
  exact ⟨rfl, Drawn0.refl _⟩
 ·cases h
def hops_Width.l0 : Nat → Int → Int → Int → List (S43) → List (S39) → Int → Int → Int → Int → Int → Int → Int → Int → Int → Int → Int → Option (Int)
 | 0, _, _, _, _, _, _, _, _, _, _, _, _, _, _, _, _ => none
 | k + 1, x3, x10, x11, x151000, x151001, x151002, x151003, x151004, x151005, x151006, x151007, x151008, x151009, x151010, x151011, x151012 => if x11 < x10 then ((plan_Dists.f k x151000 x151001 x151002 x151003 x151004 x151005 x151006 x151007 x151008 x151009 x151010 x151011 x151012 x11).bind fun t152 => ((slices_Max_int_int.f t152).bind fun t155 => (hops_Width.l0 k (mx x3 t155) x10 (wrap64 (x11 + 1)) x151000 x151001 x151002 x151003 x151004 x151005 x151006 x151007 x151008 x151009 x151010 x151011 x151012))) else (some x3)
def hops_Width.f (k : Nat) (l0_0 : List (S43)) (l0_1 : List (S39)) (a0_2 : Int) (a0_3 : Int) (a0_4 : Int) (a0_5 : Int) (a0_6 : Int) (a0_7 : Int) (a0_8 : Int) (a0_9 : Int) (a0_10 : Int) (a0_11 : Int) (a0_12 : Int) : Option (Int) := (plan_Right.f l0_0 l0_1 a0_2 a0_3 a0_4 a0_5 a0_6 a0_7 a0_8 a0_9 a0_10 a0_11 a0_12).bind fun t151 => (if t151 = true then (hops_Width.l0 k 0 (l0_0.length : Int) 0 l0_0 l0_1 a0_2 a0_3 a0_4 a0_5 a0_6 a0_7 a0_8 a0_9 a0_10 a0_11 a0_12) else (some (-1)))
set_option maxHeartbeats 8000000 in
set_option maxRecDepth 100000 in
theorem hops_Width.calls (k : Nat) (A0_0 : Option Addr) (c0_0 : Nat) (l0_0 : List (S43)) (A0_1 : Option Addr) (c0_1 : Nat) (l0_1 : List (S39)) (a0_2 : Int) (a0_3 : Int) (a0_4 : Int) (a0_5 : Int) (a0_6 : Int) (a0_7 : Int) (a0_8 : Int) (a0_9 : Int) (a0_10 : Int) (a0_11 : Int) (a0_12 : Int) (r : Int) (w : World) (hr0_0 : Kd.C k43 w A0_0 l0_0.length l0_0) (hc0_0 : l0_0.length ≤ c0_0) (hr0_1 : Kd.C k39 w A0_1 l0_1.length l0_1) (hc0_1 : l0_1.length ≤ c0_1) (h : hops_Width.f k l0_0 l0_1 a0_2 a0_3 a0_4 a0_5 a0_6 a0_7 a0_8 a0_9 a0_10 a0_11 a0_12 = some r) (hG : Gv w) :
  Calls Tryd.prog 12 #[.agg #[.slice A0_0 l0_0.length c0_0, .slice A0_1 l0_1.length c0_1, .int .i64 a0_2, .int .i64 a0_3, .int .i64 a0_4, .int .i64 a0_5, .int .i64 a0_6, .int .i64 a0_7, .int .i64 a0_8, .int .i64 a0_9, .int .i64 a0_10, .int .i64 a0_11, .int .i64 a0_12]] w fun e w' => e = .returned (.int .i64 r) ∧ Below w.heap.size w w' := by
 have HG := am hG
 clear hG
 have hu25 := Tryd.underlying25
 have HR0_0 := am hr0_0
 have HC0_0 := am hc0_0
 clear hr0_0 hc0_0
 have HR0_1 := am hr0_1
 have HC0_1 := am hc0_1
 clear hr0_1 hc0_1
 have HB := am (Below.refl w.heap.size w)
 have H : ((plan_Right.f l0_0 l0_1 a0_2 a0_3 a0_4 a0_5 a0_6 a0_7 a0_8 a0_9 a0_10 a0_11 a0_12).bind fun t151 => (if t151 = true then (hops_Width.l0 k 0 (l0_0.length : Int) 0 l0_0 l0_1 a0_2 a0_3 a0_4 a0_5 a0_6 a0_7 a0_8 a0_9 a0_10 a0_11 a0_12) else (some (-1)))) = some r := h
 clear h
 replace H := bS H
 obtain ⟨t151, A20, H⟩ := H
 replace H : (if t151 = true then (hops_Width.l0 k 0 (l0_0.length : Int) 0 l0_0 l0_1 a0_2 a0_3 a0_4 a0_5 a0_6 a0_7 a0_8 a0_9 a0_10 a0_11 a0_12) else (some (-1))) = some r := H
 have A2 := am A20
 clear A20
 by_cases c3 : t151 = true
 ·subst c3
  have H1 : (hops_Width.l0 k 0 (l0_0.length : Int) 0 l0_0 l0_1 a0_2 a0_3 a0_4 a0_5 a0_6 a0_7 a0_8 a0_9 a0_10 a0_11 a0_12) = some r := by rw [if_pos rfl] at H; exact H
  clear H
  have H := H1
  clear H1
  have H' := am H
  clear H
  go_enter Tryd.func12, Tryd.ntmps12
  go_wp2_with (first | ((with_reducible refine gate_dst (N := 1) rfl ?_); refine bxe 1 #[.slice A0_0 l0_0.length c0_0, .slice A0_1 l0_1.length c0_1, .int .i64 a0_2, .int .i64 a0_3, .int .i64 a0_4, .int .i64 a0_5, .int .i64 a0_6, .int .i64 a0_7, .int .i64 a0_8, .int .i64 a0_9, .int .i64 a0_10, .int .i64 a0_11, .int .i64 a0_12] 25 ?_; intro gb150 hg w4 hbox hb; have n0_ := am (below_step bl0 hb); have n1_ := am (hbox); have n2_ := am (gw0 hg); have n3_ := am (gw0 hg); clear HB; have HB := n0_; have BK150 := n1_; have GW150 := n2_; have GE150 := n3_; clear n0_ n1_ n2_ n3_; clear hb hbox hg; obtain ⟨hcz5_0, hcz5_1, hcz5_2, hcz5_3, hcz5_4, hcz5_5, hcz5_6, hcz5_7, hcz5_8, hcz5_9, hcz5_10, hcz5_11, hcz5_12⟩ := cellsK13 BK150.out; obtain ⟨hfz5_0, hfz5_1, hfz5_2, hfz5_3, hfz5_4, hfz5_5, hfz5_6, hfz5_7, hfz5_8, hfz5_9, hfz5_10, hfz5_11, hfz5_12⟩ := frozK13 BK150.out) | ((with_reducible refine gate_callee (f := 22) rfl ?_); refine goesL_ (some 6) rfl rfl Tryd.func22 (by kernel_rfl) rfl #[.agg #[.slice A0_0 l0_0.length c0_0, .slice A0_1 l0_1.length c0_1, .int .i64 a0_2, .int .i64 a0_3, .int .i64 a0_4, .int .i64 a0_5, .int .i64 a0_6, .int .i64 a0_7, .int .i64 a0_8, .int .i64 a0_9, .int .i64 a0_10, .int .i64 a0_11, .int .i64 a0_12]] rfl lm ?_; (with_reducible refine (plan_Right.calls _ _ l0_0 _ _ l0_1 a0_2 a0_3 a0_4 a0_5 a0_6 a0_7 a0_8 a0_9 a0_10 a0_11 a0_12 true _ ?side1 ?side2 ?side3 ?side4 A2.out (Gv.below (k := 0) HG.out (bl1 GE150))).mono ?_); (case side1 => exact kc HR0_0); (case side2 => exact HC0_0.out); (case side3 => exact kc HR0_1); (case side4 => exact HC0_1.out); rintro e w6 ⟨rfl, hb⟩; refine ⟨_, rfl, ?_⟩; have n0_ := am (blk_below (bk BK150) hb); have n1_ := am (below_step (bl1 GE150) hb); clear BK150; clear HB; have BK150 := n0_; have HB := n1_; clear n0_ n1_; (try clear hb); (try clear hb2); (try clear hk); (try clear hi); obtain ⟨hcz7_0, hcz7_1, hcz7_2, hcz7_3, hcz7_4, hcz7_5, hcz7_6, hcz7_7, hcz7_8, hcz7_9, hcz7_10, hcz7_11, hcz7_12⟩ := cellsK13 BK150.out; obtain ⟨hfz7_0, hfz7_1, hfz7_2, hfz7_3, hfz7_4, hfz7_5, hfz7_6, hfz7_7, hfz7_8, hfz7_9, hfz7_10, hfz7_11, hfz7_12⟩ := frozK13 BK150.out))
  go_loopg [3, 11] k (fun kq v3 v11 w' => ∃ (x3_1 : Int) (x11_1 : Int), v3 = .int .i64 x3_1 ∧ v11 = .int .i64 x11_1 ∧ Aside0 (hops_Width.l0 kq x3_1 (l0_0.length : Int) x11_1 l0_0 l0_1 a0_2 a0_3 a0_4 a0_5 a0_6 a0_7 a0_8 a0_9 a0_10 a0_11 a0_12 = some r) ∧ Aside0 (kq ≤ k) ∧ Aside0 (w'.heap[gb150]? = some (.cells #[(.slice A0_0 l0_0.length c0_0), (.slice A0_1 l0_1.length c0_1), .int .i64 a0_2, .int .i64 a0_3, .int .i64 a0_4, .int .i64 a0_5, .int .i64 a0_6, .int .i64 a0_7, .int .i64 a0_8, .int .i64 a0_9, .int .i64 a0_10, .int .i64 a0_11, .int .i64 a0_12] 25 (0, 0))) ∧ Aside0 (Below w.heap.size w w'))
  case atStart => exact ⟨(0), (0), bx, bx, H', ⟨Nat.le_refl _⟩, ⟨bk BK150⟩, ⟨bl1 GE150⟩⟩
  case round =>
   clear H'
   try clear c1
   try clear c2
   try clear p2
   try clear c3
   try clear hcz5_0 hcz5_1 hcz5_10 hcz5_11 hcz5_12 hcz5_2 hcz5_3 hcz5_4 hcz5_5 hcz5_6 hcz5_7 hcz5_8 hcz5_9
   try clear hcz7_0 hcz7_1 hcz7_10 hcz7_11 hcz7_12 hcz7_2 hcz7_3 hcz7_4 hcz7_5 hcz7_6 hcz7_7 hcz7_8 hcz7_9
   try clear hfz5_0 hfz5_1 hfz5_10 hfz5_11 hfz5_12 hfz5_2 hfz5_3 hfz5_4 hfz5_5 hfz5_6 hfz5_7 hfz5_8 hfz5_9
   try clear hfz7_0 hfz7_1 hfz7_10 hfz7_11 hfz7_12 hfz7_2 hfz7_3 hfz7_4 hfz7_5 hfz7_6 hfz7_7 hfz7_8 hfz7_9
   obtain ⟨x3_1, x11_1, rfl, rfl, HA, HK1, BK150, HB⟩ := hrel
   cases gk with
   | zero => exact absurd HA.out (by simp [hops_Width.l0])
   | succ k1 =>
    have H := HA.out
    clear HA
    simp only [hops_Width.l0] at H
    by_cases c8 : x11_1 < (l0_0.length : Int)
    ·rw [if_pos c8] at H
     have c8b0 : decide (x11_1 < (l0_0.length : Int)) = true := dT c8
     clear c8
     replace H := bS H
     obtain ⟨t152, A90, H⟩ := H
     replace H : ((slices_Max_int_int.f t152).bind fun t155 => (hops_Width.l0 k1 (mx x3_1 t155) (l0_0.length : Int) (wrap64 (x11_1 + 1)) l0_0 l0_1 a0_2 a0_3 a0_4 a0_5 a0_6 a0_7 a0_8 a0_9 a0_10 a0_11 a0_12)) = some r := H
     have A9 := am A90
     clear A90
     replace H := bS H
     obtain ⟨t155, A100, H⟩ := H
     replace H : (hops_Width.l0 k1 (mx x3_1 t155) (l0_0.length : Int) (wrap64 (x11_1 + 1)) l0_0 l0_1 a0_2 a0_3 a0_4 a0_5 a0_6 a0_7 a0_8 a0_9 a0_10 a0_11 a0_12) = some r := H
     have A10 := am A100
     clear A100
     obtain ⟨ji11, hji11⟩ : ∃ j_ : Int, (mx x3_1 t155) = j_ := ⟨_, rfl⟩
     replace H : (hops_Width.l0 k1 ji11 (l0_0.length : Int) (wrap64 (x11_1 + 1)) l0_0 l0_1 a0_2 a0_3 a0_4 a0_5 a0_6 a0_7 a0_8 a0_9 a0_10 a0_11 a0_12) = some r := by first | (rw [hji11] at H; exact H) | (simp only [hji11] at H ⊢; exact H)
     (try rw [hji11] at A9)
     (try rw [hji11] at A10)
     have hji11_ : (if x3_1 < t155 then t155 else x3_1) = ji11 := hji11
     have H' := am H
     clear H
     obtain ⟨hcz12_0, hcz12_1, hcz12_2, hcz12_3, hcz12_4, hcz12_5, hcz12_6, hcz12_7, hcz12_8, hcz12_9, hcz12_10, hcz12_11, hcz12_12⟩ := cellsK13 BK150.out
     obtain ⟨hfz12_0, hfz12_1, hfz12_2, hfz12_3, hfz12_4, hfz12_5, hfz12_6, hfz12_7, hfz12_8, hfz12_9, hfz12_10, hfz12_11, hfz12_12⟩ := frozK13 BK150.out
     go_wp2_with (first | ((with_reducible refine gate_callee (f := 16) rfl ?_); refine goesL_ (some 17) rfl rfl Tryd.func16 (by kernel_rfl) rfl #[.agg #[.slice A0_0 l0_0.length c0_0, .slice A0_1 l0_1.length c0_1, .int .i64 a0_2, .int .i64 a0_3, .int .i64 a0_4, .int .i64 a0_5, .int .i64 a0_6, .int .i64 a0_7, .int .i64 a0_8, .int .i64 a0_9, .int .i64 a0_10, .int .i64 a0_11, .int .i64 a0_12], .int .i64 x11_1] rfl lm ?_; (with_reducible refine (plan_Dists.calls k1 _ _ l0_0 _ _ l0_1 a0_2 a0_3 a0_4 a0_5 a0_6 a0_7 a0_8 a0_9 a0_10 a0_11 a0_12 x11_1 t152 _ ?side1 ?side2 ?side3 ?side4 A9.out).mono ?_); (case side1 => exact kc HR0_0); (case side2 => exact HC0_0.out); (case side3 => exact kc HR0_1); (case side4 => exact HC0_1.out); rintro e w13 ⟨v153, rfl, ho0, hb⟩; refine ⟨_, rfl, ?_⟩; have n0_ := am (Kd.R_lower ho0 (below_size (bl1 GE150))); have n1_ := am (blk_below (bk BK150) hb); have n2_ := am (below_step (bl1 GE150) hb); clear BK150; clear HB; have HO154 := n0_; have BK150 := n1_; have HB := n2_; clear n0_ n1_ n2_; (try clear hb); (try clear hb2); (try clear hk); (try clear hi); (try clear ho0); obtain ⟨Ao14, co14, eo14⟩ := Kd.R_slice HO154.out; subst eo14) | ((with_reducible refine gate_callee (f := 23) rfl ?_); refine goesL_ (some 18) rfl rfl Tryd.func23 (by kernel_rfl) rfl #[.slice Ao14 t152.length co14] rfl lm ?_; (with_reducible refine (slices_Max_int_int.calls _ _ t152 t155 _ ?side1 ?side2 A10.out).mono ?_); (case side1 => exact kg (Kd.R_reads' HO154.out).2.2); (case side2 => exact (Kd.R_reads' HO154.out).2.1); rintro e w' ⟨rfl, ⟨nd, rfl⟩⟩; refine ⟨_, rfl, ?_⟩))
     go_roundg k1
     case measure => have := HK1.out; omega
     case rel => exact ⟨(ji11), (wrap64 (x11_1 + 1)), (by first | rfl | (simp; done) | (simp only [← hji11] <;> (first | rfl | simp)) | (simp [*]; done)), bx, H', ⟨by have := HK1.out; omega⟩, ⟨bk BK150⟩, ⟨bl1 GE150⟩⟩
    ·rw [if_neg c8] at H
     have c8b0 : decide (x11_1 < (l0_0.length : Int)) = false := dF c8
     clear c8
     obtain rfl := Option.some.inj H
     go_wp2
     go_ret
     exact ⟨ew, bl1 GE150⟩
 ·replace c3 := Bool.eq_false_iff.mpr c3
  subst c3
  have H1 : (some (-1)) = some r := by rw [if_neg (show ¬ (false = true) by decide)] at H; exact H
  clear H
  have H := H1
  clear H1
  obtain rfl := Option.some.inj H
  go_enter Tryd.func12, Tryd.ntmps12
  go_wp2_with (first | ((with_reducible refine gate_dst (N := 1) rfl ?_); refine bxe 1 #[.slice A0_0 l0_0.length c0_0, .slice A0_1 l0_1.length c0_1, .int .i64 a0_2, .int .i64 a0_3, .int .i64 a0_4, .int .i64 a0_5, .int .i64 a0_6, .int .i64 a0_7, .int .i64 a0_8, .int .i64 a0_9, .int .i64 a0_10, .int .i64 a0_11, .int .i64 a0_12] 25 ?_; intro gb150 hg w15 hbox hb; have n0_ := am (below_step bl0 hb); have n1_ := am (hbox); have n2_ := am (gw0 hg); have n3_ := am (gw0 hg); clear HB; have HB := n0_; have BK150 := n1_; have GW150 := n2_; have GE150 := n3_; clear n0_ n1_ n2_ n3_; clear hb hbox hg; obtain ⟨hcz16_0, hcz16_1, hcz16_2, hcz16_3, hcz16_4, hcz16_5, hcz16_6, hcz16_7, hcz16_8, hcz16_9, hcz16_10, hcz16_11, hcz16_12⟩ := cellsK13 BK150.out; obtain ⟨hfz16_0, hfz16_1, hfz16_2, hfz16_3, hfz16_4, hfz16_5, hfz16_6, hfz16_7, hfz16_8, hfz16_9, hfz16_10, hfz16_11, hfz16_12⟩ := frozK13 BK150.out) | ((with_reducible refine gate_callee (f := 22) rfl ?_); refine goesL_ (some 6) rfl rfl Tryd.func22 (by kernel_rfl) rfl #[.agg #[.slice A0_0 l0_0.length c0_0, .slice A0_1 l0_1.length c0_1, .int .i64 a0_2, .int .i64 a0_3, .int .i64 a0_4, .int .i64 a0_5, .int .i64 a0_6, .int .i64 a0_7, .int .i64 a0_8, .int .i64 a0_9, .int .i64 a0_10, .int .i64 a0_11, .int .i64 a0_12]] rfl lm ?_; (with_reducible refine (plan_Right.calls _ _ l0_0 _ _ l0_1 a0_2 a0_3 a0_4 a0_5 a0_6 a0_7 a0_8 a0_9 a0_10 a0_11 a0_12 false _ ?side1 ?side2 ?side3 ?side4 A2.out (Gv.below (k := 0) HG.out (bl1 GE150))).mono ?_); (case side1 => exact kc HR0_0); (case side2 => exact HC0_0.out); (case side3 => exact kc HR0_1); (case side4 => exact HC0_1.out); rintro e w17 ⟨rfl, hb⟩; refine ⟨_, rfl, ?_⟩; have n0_ := am (blk_below (bk BK150) hb); have n1_ := am (below_step (bl1 GE150) hb); clear BK150; clear HB; have BK150 := n0_; have HB := n1_; clear n0_ n1_; (try clear hb); (try clear hb2); (try clear hk); (try clear hi)))
  go_ret
  exact ⟨ew, bl1 GE150⟩
def dl6_row.f  : Option ((List (S43)) × (List (S39)) × Int × Int × Int × Int × Int × Int × Int × Int × Int × Int × Int) := some ((([(⟨4, 1⟩ : S43), (⟨4, 1⟩ : S43), (⟨4, 1⟩ : S43)] : List (S43))), (([(⟨0, 1, (⟨0, 1⟩ : S37), (⟨0, 1⟩ : S37)⟩ : S39), (⟨1, 2, (⟨2, 3⟩ : S37), (⟨0, 1⟩ : S37)⟩ : S39)] : List (S39))), 0, 0, 0, 0, 0, 0, 0, 0, 0, 0, 0)
set_option maxHeartbeats 8000000 in
set_option maxRecDepth 100000 in
theorem dl6_row.calls  (r1 : List (S43)) (r2 : List (S39)) (r3 : Int) (r4 : Int) (r5 : Int) (r6 : Int) (r7 : Int) (r8 : Int) (r9 : Int) (r10 : Int) (r11 : Int) (r12 : Int) (r13 : Int) (w : World) (h : dl6_row.f  = some (r1, r2, r3, r4, r5, r6, r7, r8, r9, r10, r11, r12, r13)) :
  Calls Tryd.prog 14 #[] w fun e w' => ∃ v0_ v1_ : Value, e = .returned (.agg #[v0_, v1_, .int .i64 r3, .int .i64 r4, .int .i64 r5, .int .i64 r6, .int .i64 r7, .int .i64 r8, .int .i64 r9, .int .i64 r10, .int .i64 r11, .int .i64 r12, .int .i64 r13]) ∧ Kd.R k43 43 w' w.heap.size (fun _ => True) v0_ r1 ∧ Kd.R k39 39 w' w.heap.size (fun _ => True) v1_ r2 ∧ Below w.heap.size w w' := by
 have hu25 := Tryd.underlying25
 have hu43 := Tryd.underlying43
 have hu37 := Tryd.underlying37
 have hu39 := Tryd.underlying39
 have HB := am (Below.refl w.heap.size w)
 have H : (some ((([(⟨4, 1⟩ : S43), (⟨4, 1⟩ : S43), (⟨4, 1⟩ : S43)] : List (S43))), (([(⟨0, 1, (⟨0, 1⟩ : S37), (⟨0, 1⟩ : S37)⟩ : S39), (⟨1, 2, (⟨2, 3⟩ : S37), (⟨0, 1⟩ : S37)⟩ : S39)] : List (S39))), 0, 0, 0, 0, 0, 0, 0, 0, 0, 0, 0)) = some (r1, r2, r3, r4, r5, r6, r7, r8, r9, r10, r11, r12, r13) := h
 clear h
 obtain ⟨y158, hy158⟩ : ∃ y_ : List (S43), y_ = (([(⟨4, 1⟩ : S43), (⟨4, 1⟩ : S43), (⟨4, 1⟩ : S43)] : List (S43))) := ⟨_, rfl⟩
 replace H : (some (y158, (([(⟨0, 1, (⟨0, 1⟩ : S37), (⟨0, 1⟩ : S37)⟩ : S39), (⟨1, 2, (⟨2, 3⟩ : S37), (⟨0, 1⟩ : S37)⟩ : S39)] : List (S39))), 0, 0, 0, 0, 0, 0, 0, 0, 0, 0, 0)) = some (r1, r2, r3, r4, r5, r6, r7, r8, r9, r10, r11, r12, r13) := by first | (rw [hy158]; with_reducible exact H) | (have H2_ := (Option.bind_some _ _).symm.trans H; rw [hy158]; with_reducible exact H2_) | (have H2_ := (Option.bind_some _ _).symm.trans H; with_reducible exact H2_) | with_reducible exact H | (rw [hy158]; exact H) | exact H
 have Ny158 := am hy158
 clear hy158
 obtain ⟨y161, hy161⟩ : ∃ y_ : List (S39), y_ = (([(⟨0, 1, (⟨0, 1⟩ : S37), (⟨0, 1⟩ : S37)⟩ : S39), (⟨1, 2, (⟨2, 3⟩ : S37), (⟨0, 1⟩ : S37)⟩ : S39)] : List (S39))) := ⟨_, rfl⟩
 replace H : (some (y158, y161, 0, 0, 0, 0, 0, 0, 0, 0, 0, 0, 0)) = some (r1, r2, r3, r4, r5, r6, r7, r8, r9, r10, r11, r12, r13) := by first | (rw [hy161]; with_reducible exact H) | (have H2_ := (Option.bind_some _ _).symm.trans H; rw [hy161]; with_reducible exact H2_) | (have H2_ := (Option.bind_some _ _).symm.trans H; with_reducible exact H2_) | with_reducible exact H | (rw [hy161]; exact H) | exact H
 have Ny161 := am hy161
 clear hy161
 simp only [Option.some.injEq, Prod.mk.injEq] at H
 obtain ⟨rfl, rfl, rfl, rfl, rfl, rfl, rfl, rfl, rfl, rfl, rfl, rfl, rfl⟩ := H
 go_enter Tryd.func14, Tryd.ntmps14
 go_wp2_with (first | ((with_reducible refine gate_dst (N := 0) rfl ?_); refine bxe 0 #[.slice none 0 0, .slice none 0 0, .int .i64 0, .int .i64 0, .int .i64 0, .int .i64 0, .int .i64 0, .int .i64 0, .int .i64 0, .int .i64 0, .int .i64 0, .int .i64 0, .int .i64 0] 25 ?_; intro gb156 hg w1 hbox hb; have n0_ := am (below_step bl0 hb); have n1_ := am (hbox); have n2_ := am (gw0 hg); have n3_ := am (gw0 hg); clear HB; have HB := n0_; have BK156 := n1_; have GW156 := n2_; have GE156 := n3_; clear n0_ n1_ n2_ n3_; clear hb hbox hg) | ((with_reducible refine gate_dst (N := 1) rfl ?_); refine bxe 1 #[.int .i64 0, .int .i64 0] 43 ?_; intro gb157 hg w2 hbox hb; have n0_ := am (blk_below (bk BK156) hb); have n1_ := am (below_step (bl1 GE156) hb); have n2_ := am (hbox); have n3_ := am (gw1 hg GE156); have n4_ := am (gw1 hg GE156); have n5_ := am (nl hg BK156); have n6_ := am (nr hg BK156); clear BK156; clear HB; have BK156 := n0_; have HB := n1_; have BK157 := n2_; have GW157 := n3_; have GE157 := n4_; have NB156_157 := n5_; have NB157_156 := n6_; clear n0_ n1_ n2_ n3_ n4_ n5_ n6_; clear hb hbox hg; have hnb3 := NB157_156.out; have hnc3 := NB156_157.out; have hcz4_0 : w2.cell? ⟨gb157, 0, none⟩ = some (.int .i64 0) := (blk_cell BK157.out 0).trans rfl; have hcz4_1 : w2.cell? ⟨gb157, 1, none⟩ = some (.int .i64 0) := (blk_cell BK157.out 1).trans rfl; have hfz4_0 := blk_frozen BK157.out 0; have hfz4_1 := blk_frozen BK157.out 1) | ((with_reducible refine gate_dst (N := 6) rfl ?_); refine Kd.R_lit k43 _ 43 ?hg (N := 6) ?hd (xs := ([(⟨4, 1⟩ : S43), (⟨4, 1⟩ : S43), (⟨4, 1⟩ : S43)] : List (S43))) (inner := [.int .i64 4, .int .i64 1, .int .i64 4, .int .i64 1, .int .i64 4, .int .i64 1]) (ok := fun _ => True) (okp := fun _ => True) ?hr ?hp (fun _ hk => hk) trivial (Below.refl _ _) (Nat.le_refl _) (by simp) ?_; (case hd => rfl); (case hg => rfl); (case hr => first | (go_simp; done) | (go_simp; rfl)); (case hp => exact (Reps.c2 (show Kd.M k43 _ _ _ (⟨4, 1⟩ : S43) [.int .i64 4, .int .i64 1] from (k43_mkM _ _ _ (⟨4, 1⟩ : S43) )) (Reps.c2 (show Kd.M k43 _ _ _ (⟨4, 1⟩ : S43) [.int .i64 4, .int .i64 1] from (k43_mkM _ _ _ (⟨4, 1⟩ : S43) )) (Reps.c2 (show Kd.M k43 _ _ _ (⟨4, 1⟩ : S43) [.int .i64 4, .int .i64 1] from (k43_mkM _ _ _ (⟨4, 1⟩ : S43) )) (Reps.none _ _))))); intro v159 w5 ho6 hb hg_ hnew_; clear hg_ hnew_; (first | rw [← Ny158.out] at ho6 | (simp only [Int.reduceToNat] at ho6; rw [← Ny158.out] at ho6)); have n0_ := am (Kd.R_lower (Kd.R_newB ho6 (g := gb157) (o := .cells #[.int .i64 4, .int .i64 1] 43 (0, 0)) (by (with_reducible repeat (first | refine blk_drewN ?_ _ | refine blk_drew ?_ | refine blk_alloc ?_ _)); refine blk_put (cs := #[.int .i64 4, .int .i64 0]) ?_ 1 _ rfl; (with_reducible repeat (first | refine blk_drewN ?_ _ | refine blk_drew ?_ | refine blk_alloc ?_ _)); refine blk_put (cs := #[.int .i64 0, .int .i64 0]) ?_ 0 _ rfl; exact bk BK157)) (below_size (bl2 GE156 GE157))); have n1_ := am (blk_below (g := gb156) (o := .cells #[.slice none 0 0, .slice none 0 0, .int .i64 0, .int .i64 0, .int .i64 0, .int .i64 0, .int .i64 0, .int .i64 0, .int .i64 0, .int .i64 0, .int .i64 0, .int .i64 0, .int .i64 0] 25 (0, 0)) (by (with_reducible repeat (first | refine blk_drewN ?_ _ | refine blk_drew ?_ | refine blk_alloc ?_ _)); refine blk_far ?_ NB156_157.out _; (with_reducible repeat (first | refine blk_drewN ?_ _ | refine blk_drew ?_ | refine blk_alloc ?_ _)); refine blk_far ?_ NB156_157.out _; exact bk BK156) hb); have n2_ := am (blk_below (g := gb157) (o := .cells #[.int .i64 4, .int .i64 1] 43 (0, 0)) (by (with_reducible repeat (first | refine blk_drewN ?_ _ | refine blk_drew ?_ | refine blk_alloc ?_ _)); refine blk_put (cs := #[.int .i64 4, .int .i64 0]) ?_ 1 _ rfl; (with_reducible repeat (first | refine blk_drewN ?_ _ | refine blk_drew ?_ | refine blk_alloc ?_ _)); refine blk_put (cs := #[.int .i64 0, .int .i64 0]) ?_ 0 _ rfl; exact bk BK157) hb); have n3_ := am (below_step (bl2 GE156 GE157) hb); clear BK156; clear BK157; clear HB; have HO160 := n0_; have BK156 := n1_; have BK157 := n2_; have HB := n3_; clear n0_ n1_ n2_ n3_; clear hb ho6) | ((with_reducible refine gate_dst (N := 13) rfl ?_); refine Kd.R_lit k39 _ 39 ?hg (N := 13) ?hd (xs := ([(⟨0, 1, (⟨0, 1⟩ : S37), (⟨0, 1⟩ : S37)⟩ : S39), (⟨1, 2, (⟨2, 3⟩ : S37), (⟨0, 1⟩ : S37)⟩ : S39)] : List (S39))) (inner := [.int .i64 0, .int .i64 1, .int .i64 0, .int .i64 1, .int .i64 0, .int .i64 1, .int .i64 1, .int .i64 2, .int .i64 2, .int .i64 3, .int .i64 0, .int .i64 1]) (ok := fun _ => True) (okp := fun _ => True) ?hr ?hp (fun _ hk => hk) trivial (Below.refl _ _) (Nat.le_refl _) (by simp) ?_; (case hd => rfl); (case hg => rfl); (case hr => first | (go_simp; done) | (go_simp; rfl)); (case hp => exact (Reps.c6 (show Kd.M k39 _ _ _ (⟨0, 1, (⟨0, 1⟩ : S37), (⟨0, 1⟩ : S37)⟩ : S39) [.int .i64 0, .int .i64 1, .int .i64 0, .int .i64 1, .int .i64 0, .int .i64 1] from (k39_mkM _ _ _ (⟨0, 1, (⟨0, 1⟩ : S37), (⟨0, 1⟩ : S37)⟩ : S39) )) (Reps.c6 (show Kd.M k39 _ _ _ (⟨1, 2, (⟨2, 3⟩ : S37), (⟨0, 1⟩ : S37)⟩ : S39) [.int .i64 1, .int .i64 2, .int .i64 2, .int .i64 3, .int .i64 0, .int .i64 1] from (k39_mkM _ _ _ (⟨1, 2, (⟨2, 3⟩ : S37), (⟨0, 1⟩ : S37)⟩ : S39) )) (Reps.none _ _)))); intro v162 w7 ho8 hb hg_ hnew_; clear hg_ hnew_; (first | rw [← Ny161.out] at ho8 | (simp only [Int.reduceToNat] at ho8; rw [← Ny161.out] at ho8)); have n0_ := am (Kd.R_below (kr HO160.out) hb); have n1_ := am (Kd.R_lower ho8 (below_size (bl2 GE156 GE157))); have n2_ := am (blk_below (bk BK156) hb); have n3_ := am (blk_below (bk BK157) hb); have n4_ := am (below_step (bl2 GE156 GE157) hb); clear HO160; clear BK156; clear BK157; clear HB; have HO160 := n0_; have HO163 := n1_; have BK156 := n2_; have BK157 := n3_; have HB := n4_; clear n0_ n1_ n2_ n3_ n4_; clear hb ho8; obtain ⟨Ao9, co9, eo9⟩ := Kd.R_slice HO163.out; subst eo9; obtain ⟨Ao10, co10, eo10⟩ := Kd.R_slice HO160.out; subst eo10; obtain ⟨hcz11_0, hcz11_1, hcz11_2, hcz11_3, hcz11_4, hcz11_5, hcz11_6, hcz11_7, hcz11_8, hcz11_9, hcz11_10, hcz11_11, hcz11_12⟩ := cellsK13 BK156.out; obtain ⟨hfz11_0, hfz11_1, hfz11_2, hfz11_3, hfz11_4, hfz11_5, hfz11_6, hfz11_7, hfz11_8, hfz11_9, hfz11_10, hfz11_11, hfz11_12⟩ := frozK13 BK156.out))
 refine bodyPost_ret (results_cell_row rfl _ _ gb156 25 #[.slice Ao10 y158.length co10, .slice Ao9 y161.length co9, .int .i64 0, .int .i64 0, .int .i64 0, .int .i64 0, .int .i64 0, .int .i64 0, .int .i64 0, .int .i64 0, .int .i64 0, .int .i64 0, .int .i64 0] (0, 0) _ rfl (by (with_reducible repeat (first | refine blk_drewN ?_ _ | refine blk_drew ?_ | refine blk_alloc ?_ _)); refine blk_put (cs := #[.slice Ao10 y158.length co10, .slice Ao9 y161.length co9, .int .i64 0, .int .i64 0, .int .i64 0, .int .i64 0, .int .i64 0, .int .i64 0, .int .i64 0, .int .i64 0, .int .i64 0, .int .i64 0, .int .i64 0]) ?_ 12 _ rfl; (with_reducible repeat (first | refine blk_drewN ?_ _ | refine blk_drew ?_ | refine blk_alloc ?_ _)); refine blk_put (cs := #[.slice Ao10 y158.length co10, .slice Ao9 y161.length co9, .int .i64 0, .int .i64 0, .int .i64 0, .int .i64 0, .int .i64 0, .int .i64 0, .int .i64 0, .int .i64 0, .int .i64 0, .int .i64 0, .int .i64 0]) ?_ 11 _ rfl; (with_reducible repeat (first | refine blk_drewN ?_ _ | refine blk_drew ?_ | refine blk_alloc ?_ _)); refine blk_put (cs := #[.slice Ao10 y158.length co10, .slice Ao9 y161.length co9, .int .i64 0, .int .i64 0, .int .i64 0, .int .i64 0, .int .i64 0, .int .i64 0, .int .i64 0, .int .i64 0, .int .i64 0, .int .i64 0, .int .i64 0]) ?_ 10 _ rfl; (with_reducible repeat (first | refine blk_drewN ?_ _ | refine blk_drew ?_ | refine blk_alloc ?_ _)); refine blk_put (cs := #[.slice Ao10 y158.length co10, .slice Ao9 y161.length co9, .int .i64 0, .int .i64 0, .int .i64 0, .int .i64 0, .int .i64 0, .int .i64 0, .int .i64 0, .int .i64 0, .int .i64 0, .int .i64 0, .int .i64 0]) ?_ 9 _ rfl; (with_reducible repeat (first | refine blk_drewN ?_ _ | refine blk_drew ?_ | refine blk_alloc ?_ _)); refine blk_put (cs := #[.slice Ao10 y158.length co10, .slice Ao9 y161.length co9, .int .i64 0, .int .i64 0, .int .i64 0, .int .i64 0, .int .i64 0, .int .i64 0, .int .i64 0, .int .i64 0, .int .i64 0, .int .i64 0, .int .i64 0]) ?_ 8 _ rfl; (with_reducible repeat (first | refine blk_drewN ?_ _ | refine blk_drew ?_ | refine blk_alloc ?_ _)); refine blk_put (cs := #[.slice Ao10 y158.length co10, .slice Ao9 y161.length co9, .int .i64 0, .int .i64 0, .int .i64 0, .int .i64 0, .int .i64 0, .int .i64 0, .int .i64 0, .int .i64 0, .int .i64 0, .int .i64 0, .int .i64 0]) ?_ 7 _ rfl; (with_reducible repeat (first | refine blk_drewN ?_ _ | refine blk_drew ?_ | refine blk_alloc ?_ _)); refine blk_put (cs := #[.slice Ao10 y158.length co10, .slice Ao9 y161.length co9, .int .i64 0, .int .i64 0, .int .i64 0, .int .i64 0, .int .i64 0, .int .i64 0, .int .i64 0, .int .i64 0, .int .i64 0, .int .i64 0, .int .i64 0]) ?_ 6 _ rfl; (with_reducible repeat (first | refine blk_drewN ?_ _ | refine blk_drew ?_ | refine blk_alloc ?_ _)); refine blk_put (cs := #[.slice Ao10 y158.length co10, .slice Ao9 y161.length co9, .int .i64 0, .int .i64 0, .int .i64 0, .int .i64 0, .int .i64 0, .int .i64 0, .int .i64 0, .int .i64 0, .int .i64 0, .int .i64 0, .int .i64 0]) ?_ 5 _ rfl; (with_reducible repeat (first | refine blk_drewN ?_ _ | refine blk_drew ?_ | refine blk_alloc ?_ _)); refine blk_put (cs := #[.slice Ao10 y158.length co10, .slice Ao9 y161.length co9, .int .i64 0, .int .i64 0, .int .i64 0, .int .i64 0, .int .i64 0, .int .i64 0, .int .i64 0, .int .i64 0, .int .i64 0, .int .i64 0, .int .i64 0]) ?_ 4 _ rfl; (with_reducible repeat (first | refine blk_drewN ?_ _ | refine blk_drew ?_ | refine blk_alloc ?_ _)); refine blk_put (cs := #[.slice Ao10 y158.length co10, .slice Ao9 y161.length co9, .int .i64 0, .int .i64 0, .int .i64 0, .int .i64 0, .int .i64 0, .int .i64 0, .int .i64 0, .int .i64 0, .int .i64 0, .int .i64 0, .int .i64 0]) ?_ 3 _ rfl; (with_reducible repeat (first | refine blk_drewN ?_ _ | refine blk_drew ?_ | refine blk_alloc ?_ _)); refine blk_put (cs := #[.slice Ao10 y158.length co10, .slice Ao9 y161.length co9, .int .i64 0, .int .i64 0, .int .i64 0, .int .i64 0, .int .i64 0, .int .i64 0, .int .i64 0, .int .i64 0, .int .i64 0, .int .i64 0, .int .i64 0]) ?_ 2 _ rfl; (with_reducible repeat (first | refine blk_drewN ?_ _ | refine blk_drew ?_ | refine blk_alloc ?_ _)); refine blk_put (cs := #[.slice Ao10 y158.length co10, .slice none 0 0, .int .i64 0, .int .i64 0, .int .i64 0, .int .i64 0, .int .i64 0, .int .i64 0, .int .i64 0, .int .i64 0, .int .i64 0, .int .i64 0, .int .i64 0]) ?_ 1 _ rfl; (with_reducible repeat (first | refine blk_drewN ?_ _ | refine blk_drew ?_ | refine blk_alloc ?_ _)); refine blk_put (cs := #[.slice none 0 0, .slice none 0 0, .int .i64 0, .int .i64 0, .int .i64 0, .int .i64 0, .int .i64 0, .int .i64 0, .int .i64 0, .int .i64 0, .int .i64 0, .int .i64 0, .int .i64 0]) ?_ 0 _ rfl; exact bk BK156) Tryd.underlying25 rfl (by kernel_rfl)) rfl ?_
 exact ⟨_, _, ew, by (with_reducible repeat (first | apply Kd.R_alloc | apply Kd.R_drewN | apply Kd.R_drew)); exact Kd.R_mono (Kd.R_far (p := ⟨gb156, 12, none⟩) (Kd.R_far (p := ⟨gb156, 11, none⟩) (Kd.R_far (p := ⟨gb156, 10, none⟩) (Kd.R_far (p := ⟨gb156, 9, none⟩) (Kd.R_far (p := ⟨gb156, 8, none⟩) (Kd.R_far (p := ⟨gb156, 7, none⟩) (Kd.R_far (p := ⟨gb156, 6, none⟩) (Kd.R_far (p := ⟨gb156, 5, none⟩) (Kd.R_far (p := ⟨gb156, 4, none⟩) (Kd.R_far (p := ⟨gb156, 3, none⟩) (Kd.R_far (p := ⟨gb156, 2, none⟩) (Kd.R_far (p := ⟨gb156, 1, none⟩) (Kd.R_far (p := ⟨gb156, 0, none⟩) (Kd.R_types HO160.out BK156.out (by decide)) (fun _ hk => hk.2) (.slice Ao10 y158.length co10)) (fun _ hk => hk.2) (.slice Ao9 y161.length co9)) (fun _ hk => hk.2) (.int .i64 0)) (fun _ hk => hk.2) (.int .i64 0)) (fun _ hk => hk.2) (.int .i64 0)) (fun _ hk => hk.2) (.int .i64 0)) (fun _ hk => hk.2) (.int .i64 0)) (fun _ hk => hk.2) (.int .i64 0)) (fun _ hk => hk.2) (.int .i64 0)) (fun _ hk => hk.2) (.int .i64 0)) (fun _ hk => hk.2) (.int .i64 0)) (fun _ hk => hk.2) (.int .i64 0)) (fun _ hk => hk.2) (.int .i64 0)) (fun _ hk => trivial), by (with_reducible repeat (first | apply Kd.R_alloc | apply Kd.R_drewN | apply Kd.R_drew)); exact Kd.R_mono (Kd.R_far (p := ⟨gb156, 12, none⟩) (Kd.R_far (p := ⟨gb156, 11, none⟩) (Kd.R_far (p := ⟨gb156, 10, none⟩) (Kd.R_far (p := ⟨gb156, 9, none⟩) (Kd.R_far (p := ⟨gb156, 8, none⟩) (Kd.R_far (p := ⟨gb156, 7, none⟩) (Kd.R_far (p := ⟨gb156, 6, none⟩) (Kd.R_far (p := ⟨gb156, 5, none⟩) (Kd.R_far (p := ⟨gb156, 4, none⟩) (Kd.R_far (p := ⟨gb156, 3, none⟩) (Kd.R_far (p := ⟨gb156, 2, none⟩) (Kd.R_far (p := ⟨gb156, 1, none⟩) (Kd.R_far (p := ⟨gb156, 0, none⟩) (Kd.R_types HO163.out BK156.out (by decide)) (fun _ hk => hk.2) (.slice Ao10 y158.length co10)) (fun _ hk => hk.2) (.slice Ao9 y161.length co9)) (fun _ hk => hk.2) (.int .i64 0)) (fun _ hk => hk.2) (.int .i64 0)) (fun _ hk => hk.2) (.int .i64 0)) (fun _ hk => hk.2) (.int .i64 0)) (fun _ hk => hk.2) (.int .i64 0)) (fun _ hk => hk.2) (.int .i64 0)) (fun _ hk => hk.2) (.int .i64 0)) (fun _ hk => hk.2) (.int .i64 0)) (fun _ hk => hk.2) (.int .i64 0)) (fun _ hk => hk.2) (.int .i64 0)) (fun _ hk => hk.2) (.int .i64 0)) (fun _ hk => trivial), bl2 GE156 GE157⟩
end Go.Proofs.YtbefbhghmommhaaDoor.MWo
set_option linter.unusedVariables false
set_option linter.unusedSimpArgs false
namespace Go.Proofs.YtbefbhghmommhaaDoor.MWo
open Go.RowKit Go.Proofs.YtbefbhghmommhaaDoorW.PrintWords Go.Proofs.YtbefbhghmommhaaDoorW.PrintLast Go.Proofs.YtbefbhghmommhaaDoorW.PrintMore
set_option maxHeartbeats 4000000 in
set_option maxRecDepth 100000 in
theorem alive_of (P : List S43) (L : List S39) (hrow : dl6_row.f = some (P, L, 0, 0, 0, 0, 0, 0, 0, 0, 0, 0, 0)) (hway : hops_Way.f 100 P L 0 0 0 0 0 0 0 0 0 0 0 0 2 = some [0, 1]) (hwid : hops_Width.f 100 P L 0 0 0 0 0 0 0 0 0 0 0 = some 2) (hdis : hops_Dist.f 100 P L 0 0 0 0 0 0 0 0 0 0 0 0 2 = some 2) (hnex : hops_Next.f P L 0 0 0 0 0 0 0 0 0 0 0 2 0 = some 1) (w : World) (hG : Gv w) :
  Calls Tryd.prog 4 #[] w fun e w' => e = .returned (.bool true) ∧ Below w.heap.size w w' := by
 have HG := am hG
 clear hG
 have HROW := am hrow
 have HWAY := am hway
 have HWID := am hwid
 have HDIS := am hdis
 have HNEX := am hnex
 have HB0 := am (Below.refl w.heap.size w)
 clear hrow hway hwid hdis hnex
 go_enter Tryd.func4, Tryd.ntmps4
 go_wp2_with fail
 refine (dl6_row.calls P L 0 0 0 0 0 0 0 0 0 0 0 _ HROW.out).mono ?_
 rintro e w1 ⟨v0, v1, rfl, ho0, ho1, hb⟩
 obtain ⟨A0_1, c0_1, rfl⟩ := Kd.R_slice ho0
 obtain ⟨A1_1, c1_1, rfl⟩ := Kd.R_slice ho1
 have HP := am (Kd.R_reads' ho0).2.2
 have HL := am (Kd.R_reads' ho1).2.2
 have HC := am (And.intro (Kd.R_reads' ho0).2.1 (Kd.R_reads' ho1).2.1)
 have HB1 := am (below_step HB0.out hb)
 clear ho0 ho1 hb
 go_wp2_with fail
 refine (hops_Way.calls 100 A0_1 c0_1 P A1_1 c1_1 L 0 0 0 0 0 0 0 0 0 0 0 0 2 [0, 1] _ HP.out HC.out.1 HL.out HC.out.2 HWAY.out (Gv.below (k := 0) HG.out HB1.out)).mono ?_
 rintro e w2 ⟨v, rfl, ho, hb⟩
 have HB2 := am (below_step HB1.out hb)
 obtain ⟨F, fc, rfl⟩ := Kd.R_slice ho
 have hF := (Kd.R_reads' ho).2.2
 obtain ⟨ad, rfl, y0⟩ := Kd.at_int hF 0 (by decide) (by decide)
 obtain ⟨ad', e, y1⟩ := Kd.at_int hF 1 (by decide) (by decide)
 cases e
 have z0 : w2.cell? ad = some (.int .i64 0) := y0
 have z1 : w2.cell? { block := ad.block, off := ad.off + 1 } = some (.int .i64 1) := y1
 clear y0 y1 hF ho hb HP HL HC
 go_wp2_with fail
 clear z0 z1
 refine (dl6_row.calls P L 0 0 0 0 0 0 0 0 0 0 0 _ HROW.out).mono ?_
 rintro e w3 ⟨v0, v1, rfl, ho0, ho1, hb⟩
 obtain ⟨A0_3, c0_3, rfl⟩ := Kd.R_slice ho0
 obtain ⟨A1_3, c1_3, rfl⟩ := Kd.R_slice ho1
 have HP := am (Kd.R_reads' ho0).2.2
 have HL := am (Kd.R_reads' ho1).2.2
 have HC := am (And.intro (Kd.R_reads' ho0).2.1 (Kd.R_reads' ho1).2.1)
 have HB3 := am (below_step HB2.out hb)
 clear ho0 ho1 hb
 go_wp2_with fail
 refine (hops_Width.calls 100 A0_3 c0_3 P A1_3 c1_3 L 0 0 0 0 0 0 0 0 0 0 0 2 _ HP.out HC.out.1 HL.out HC.out.2 HWID.out (Gv.below (k := 0) HG.out HB3.out)).mono ?_
 rintro e w4 ⟨rfl, hb⟩
 have HB4 := am (below_step HB3.out hb)
 clear hb HP HL HC
 go_wp2_with fail
 refine (dl6_row.calls P L 0 0 0 0 0 0 0 0 0 0 0 _ HROW.out).mono ?_
 rintro e w5 ⟨v0, v1, rfl, ho0, ho1, hb⟩
 obtain ⟨A0_5, c0_5, rfl⟩ := Kd.R_slice ho0
 obtain ⟨A1_5, c1_5, rfl⟩ := Kd.R_slice ho1
 have HP := am (Kd.R_reads' ho0).2.2
 have HL := am (Kd.R_reads' ho1).2.2
 have HC := am (And.intro (Kd.R_reads' ho0).2.1 (Kd.R_reads' ho1).2.1)
 have HB5 := am (below_step HB4.out hb)
 clear ho0 ho1 hb
 go_wp2_with fail
 refine (hops_Dist.calls 100 A0_5 c0_5 P A1_5 c1_5 L 0 0 0 0 0 0 0 0 0 0 0 0 2 2 _ HP.out HC.out.1 HL.out HC.out.2 HDIS.out (Gv.below (k := 0) HG.out HB5.out)).mono ?_
 rintro e w6 ⟨rfl, hb⟩
 have HB6 := am (below_step HB5.out hb)
 clear hb HP HL HC
 go_wp2_with fail
 refine (dl6_row.calls P L 0 0 0 0 0 0 0 0 0 0 0 _ HROW.out).mono ?_
 rintro e w7 ⟨v0, v1, rfl, ho0, ho1, hb⟩
 obtain ⟨A0_7, c0_7, rfl⟩ := Kd.R_slice ho0
 obtain ⟨A1_7, c1_7, rfl⟩ := Kd.R_slice ho1
 have HP := am (Kd.R_reads' ho0).2.2
 have HL := am (Kd.R_reads' ho1).2.2
 have HC := am (And.intro (Kd.R_reads' ho0).2.1 (Kd.R_reads' ho1).2.1)
 have HB7 := am (below_step HB6.out hb)
 clear ho0 ho1 hb
 go_wp2_with fail
 refine (hops_Next.calls A0_7 c0_7 P A1_7 c1_7 L 0 0 0 0 0 0 0 0 0 0 0 2 0 1 _ HP.out HC.out.1 HL.out HC.out.2 HNEX.out (Gv.below (k := 0) HG.out HB7.out)).mono ?_
 rintro e w8 ⟨rfl, hb⟩
 have HB8 := am (below_step HB7.out hb)
 clear hb HP HL HC
 go_wp2_with fail
 go_ret
 exact ⟨rfl, HB8.out⟩
theorem hops_alive (w : World) (hG : Gv w) : Calls Tryd.prog 4 #[] w fun e w' => e = .returned (.bool true) ∧ Below w.heap.size w w' :=
 alive_of _ _ rfl (by kernel_rfl) (by kernel_rfl) (by kernel_rfl) (by kernel_rfl) w hG
end Go.Proofs.YtbefbhghmommhaaDoor.MWo
namespace Go.Proofs.YtbefbhghmommhaaDoor.MWo
open Go.RowKit Go.Proofs.YtbefbhghmommhaaDoorW.PrintWords Go.Proofs.YtbefbhghmommhaaDoorW.PrintLast Go.Proofs.YtbefbhghmommhaaDoorW.PrintMore
attribute [local go_sem] mp_u32s mp_u32m mp_u8s mp_u8m max2_int min2_int max_two min_two max_three min_three max_four min_four
set_option linter.unusedVariables false
set_option linter.unusedSimpArgs false
def dl6_alive.f : Option Bool := some true
theorem dl6_alive.calls (r : Bool) (w : World) (h : dl6_alive.f = some r) (hG : Gv w) :
  Calls Tryd.prog 4 #[] w fun e w' => e = .returned (.bool r) ∧ Below w.heap.size w w' := by
 obtain rfl := Option.some.inj h
 exact hops_alive w hG
end Go.Proofs.YtbefbhghmommhaaDoor.MWo
set_option linter.unusedVariables false
set_option linter.unusedSimpArgs false
namespace Go.Proofs.YtbefbhghmommhaaDoor.MWo
open Go.RowKit Go.Proofs.YtbefbhghmommhaaDoorW.PrintWords Go.Proofs.YtbefbhghmommhaaDoorW.PrintLast Go.Proofs.YtbefbhghmommhaaDoorW.PrintMore
theorem any_take {L : List S39} {p : S39 → Bool} {n i : Int} (h : (L.take n.toNat).any p = false) (h0 : 0 ≤ i) (h1 : i < n) (h2 : n ≤ L.length) : p (rd_T39 L i) = false := by
 rw [List.any_eq_false] at h
 have hi : i.toNat < (L.take n.toNat).length := by rw [List.length_take]; omega
 have := h _ (List.getElem_mem hi)
 rw [List.getElem_take] at this
 have hi2 : i.toNat < L.length := by omega
 have e : rd_T39 L i = L[i.toNat] := by simp [rd_T39, List.getD_eq_getElem?_getD, hi2]
 rw [e]
 simpa using this
set_option linter.unusedVariables false
set_option linter.unusedSimpArgs false
theorem any_hit {L : List S39} {p : S39 → Bool} {n i : Int} (h : p (rd_T39 L i) = true) (h0 : 0 ≤ i) (h1 : i < n) (h2 : n ≤ L.length) : (L.take n.toNat).any p = true := by
 cases hh : (L.take n.toNat).any p with
 | true => rfl
 | false => rw [any_take hh h0 h1 h2] at h; cases h
theorem any_miss {L : List S39} {p : S39 → Bool} {n : Int} (h : ∀ j : Int, 0 ≤ j → j < n → p (rd_T39 L j) = false) (h0 : 0 ≤ n) (h2 : n ≤ L.length) : (L.take n.toNat).any p = false := by
 rw [List.any_eq_false]
 intro x hx
 obtain ⟨k, hk, rfl⟩ := List.getElem_of_mem hx
 rw [List.length_take] at hk
 rw [List.getElem_take]
 have hk2 : k < L.length := by omega
 have e : rd_T39 L k = L[k] := by simp [rd_T39, List.getD_eq_getElem?_getD, hk2]
 have := h k (by omega) (by omega)
 rw [e] at this
 simp [this]
set_option maxHeartbeats 8000000 in
set_option maxRecDepth 4000 in
theorem port_any (A0 : Option Addr) (c0 : Nat) (P : List S43) (A1 : Option Addr) (c1 : Nat) (L : List S39) (a2 a3 a4 a5 a6 a7 a8 a9 a10 a11 a12 : Int) (nl part node : Int) (w : World) (hr0 : Kd.C k43 w A0 P.length P) (hc0 : P.length ≤ c0) (hr1 : Kd.C k39 w A1 L.length L) (hc1 : L.length ≤ c1) (hL : L.length ≤ 1000) (hn0 : 0 ≤ nl) (hn1 : nl ≤ L.length) (r : Bool) (hr : (L.take nl.toNat).any (takes part node) = r) :
  Calls Tryd.prog 48 #[.agg #[.slice A0 P.length c0, .slice A1 L.length c1, .int .i64 a2, .int .i64 a3, .int .i64 a4, .int .i64 a5, .int .i64 a6, .int .i64 a7, .int .i64 a8, .int .i64 a9, .int .i64 a10, .int .i64 a11, .int .i64 a12], .int .i64 nl, .int .i64 part, .int .i64 node] w fun e w' => (∃ v0 v1 v2 v3, e = .returned (.tuple #[.agg #[.int .i64 v0, .int .i64 v1, .int .i64 v2, .int .i64 v3], .bool r])) ∧ Below w.heap.size w w' := by
 have HR1 := am hr1
 have HRr := am hr
 have HL := am (show L.length ≤ 1000 ∧ 0 ≤ nl ∧ nl ≤ (L.length : Int) from ⟨hL, hn0, hn1⟩)
 clear hr0 hr1 hc0 hc1 hr hL hn0 hn1
 go_enter Tryd.func48, Tryd.ntmps48
 go_upto_region 1 with fail
 have HO : Aside0 (((w.alloc (.cells #[.slice A0 P.length c0, .slice A1 L.length c1, .int .i64 a2, .int .i64 a3, .int .i64 a4, .int .i64 a5, .int .i64 a6, .int .i64 a7, .int .i64 a8, .int .i64 a9, .int .i64 a10, .int .i64 a11, .int .i64 a12] 25)).alloc (.cells #[.int .i64 0, .int .i64 0, .int .i64 0, .int .i64 0] 93)).heap[w.heap.size]? = some (.cells #[.slice A0 P.length c0, .slice A1 L.length c1, .int .i64 a2, .int .i64 a3, .int .i64 a4, .int .i64 a5, .int .i64 a6, .int .i64 a7, .int .i64 a8, .int .i64 a9, .int .i64 a10, .int .i64 a11, .int .i64 a12] 25)) := ⟨by
  have h0 : (w.alloc (.cells #[.slice A0 P.length c0, .slice A1 L.length c1, .int .i64 a2, .int .i64 a3, .int .i64 a4, .int .i64 a5, .int .i64 a6, .int .i64 a7, .int .i64 a8, .int .i64 a9, .int .i64 a10, .int .i64 a11, .int .i64 a12] 25)).heap[w.heap.size]? = some (.cells #[.slice A0 P.length c0, .slice A1 L.length c1, .int .i64 a2, .int .i64 a3, .int .i64 a4, .int .i64 a5, .int .i64 a6, .int .i64 a7, .int .i64 a8, .int .i64 a9, .int .i64 a10, .int .i64 a11, .int .i64 a12] 25) := heap_alloc_new _ _
  exact ((below_alloc (Below.refl _ (w.alloc (.cells #[.slice A0 P.length c0, .slice A1 L.length c1, .int .i64 a2, .int .i64 a3, .int .i64 a4, .int .i64 a5, .int .i64 a6, .int .i64 a7, .int .i64 a8, .int .i64 a9, .int .i64 a10, .int .i64 a11, .int .i64 a12] 25))) _).block _ (blk_lt h0)).trans h0⟩
 have HZ : Aside0 (((w.alloc (.cells #[.slice A0 P.length c0, .slice A1 L.length c1, .int .i64 a2, .int .i64 a3, .int .i64 a4, .int .i64 a5, .int .i64 a6, .int .i64 a7, .int .i64 a8, .int .i64 a9, .int .i64 a10, .int .i64 a11, .int .i64 a12] 25)).alloc (.cells #[.int .i64 0, .int .i64 0, .int .i64 0, .int .i64 0] 93)).heap[w.heap.size + 1]? = some (.cells #[.int .i64 0, .int .i64 0, .int .i64 0, .int .i64 0] 93)) := ⟨by have := heap_alloc_new (w.alloc (.cells #[.slice A0 P.length c0, .slice A1 L.length c1, .int .i64 a2, .int .i64 a3, .int .i64 a4, .int .i64 a5, .int .i64 a6, .int .i64 a7, .int .i64 a8, .int .i64 a9, .int .i64 a10, .int .i64 a11, .int .i64 a12] 25)) (.cells #[.int .i64 0, .int .i64 0, .int .i64 0, .int .i64 0] 93); simpa using this⟩
 have HB := am (below_alloc (below_alloc (Below.refl w.heap.size w) (Obj.cells #[.slice A0 P.length c0, .slice A1 L.length c1, .int .i64 a2, .int .i64 a3, .int .i64 a4, .int .i64 a5, .int .i64 a6, .int .i64 a7, .int .i64 a8, .int .i64 a9, .int .i64 a10, .int .i64 a11, .int .i64 a12] 25)) (Obj.cells #[.int .i64 0, .int .i64 0, .int .i64 0, .int .i64 0] 93))
 generalize (w.alloc (.cells #[.slice A0 P.length c0, .slice A1 L.length c1, .int .i64 a2, .int .i64 a3, .int .i64 a4, .int .i64 a5, .int .i64 a6, .int .i64 a7, .int .i64 a8, .int .i64 a9, .int .i64 a10, .int .i64 a11, .int .i64 a12] 25)).alloc (.cells #[.int .i64 0, .int .i64 0, .int .i64 0, .int .i64 0] 93) = wa at *
 obtain ⟨bz, hbz⟩ : ∃ bz, bz = w.heap.size + 1 := ⟨_, rfl⟩
 obtain ⟨bx, hbx⟩ : ∃ bx, bx = w.heap.size := ⟨_, rfl⟩
 rw [← hbz, ← hbx]
 rw [← hbx] at HO
 rw [← hbz] at HZ
 have HBz : Aside0 (w.heap.size ≤ bz) := ⟨by omega⟩
 clear hbx hbz
 go_wp2_with fail
 go_loopg [10] (L.length + 1) (fun kq v10 w' => ∃ i : Int, v10 = .int .i64 i ∧ Aside0 (kq + i = L.length + 1 ∧ 0 ≤ i ∧ i ≤ nl) ∧ Aside0 (Below w.heap.size w w') ∧ Aside0 (w'.heap[bx]? = some (.cells #[.slice A0 P.length c0, .slice A1 L.length c1, .int .i64 a2, .int .i64 a3, .int .i64 a4, .int .i64 a5, .int .i64 a6, .int .i64 a7, .int .i64 a8, .int .i64 a9, .int .i64 a10, .int .i64 a11, .int .i64 a12] 25)) ∧ Aside0 (w'.heap[bz]? = some (.cells #[.int .i64 0, .int .i64 0, .int .i64 0, .int .i64 0] 93)) ∧ Aside0 (∀ j : Int, 0 ≤ j → j < i → takes part node (rd_T39 L j) = false))
 case atStart => exact ⟨0, rfl, ⟨by have := HL.out; omega⟩, HB, HO, HZ, ⟨fun j h0 h1 => absurd h1 (by omega)⟩⟩
 case round =>
  clear HO HB HZ
  obtain ⟨i, rfl, HK, HB, HO, HZ, HD⟩ := hrel
  by_cases hi1 : i < nl
  ·have hi0 := HK.out.2.1
   have hiL : i < (L.length : Int) := by have := HL.out; omega
   obtain ⟨ad1, e1, y0, y1, y2, y3, y4, y5⟩ := at_T39 (Kd.C_below HR1.out HB.out) i hi0 hiL
   cases e1
   obtain ⟨x, hx⟩ : ∃ x, rd_T39 L i = x := ⟨_, rfl⟩
   have HX := am hx
   have HI1 := am (And.intro hi0 hi1)
   rw [hx] at y0 y1 y2 y3 y4 y5
   clear hx
   obtain ⟨a, b, ⟨p0, p1⟩, ⟨q0, q1⟩⟩ := x
   dsimp only at y0 y1 y2 y3 y4 y5
   have hlt : decide (i < nl) = true := dT hi1
   have q0_ := eq_true hi0
   have q1_ := eq_true hiL
   have hw1 : wrap64 (i + 1) = i + 1 := by have := HL.out; unfold wrap64; omega
   cases gk with
   | zero => exact absurd HK.out (by have := HL.out; omega)
   | succ k1 =>
   clear hi0 hi1 hiL
   obtain ⟨x0, x1, x2, x3, x4, x5, x6, x7, x8, x9, x10, x11, x12⟩ := cellsK13 HO.out
   go_upto_region 5 with fail
   have HB1 := am (below_alloc HB.out (Obj.cells #[.int .i64 a, .int .i64 b, .int .i64 p0, .int .i64 p1, .int .i64 q0, .int .i64 q1] 39))
   have HO1 := am (((below_alloc (Below.refl wr.heap.size wr) (Obj.cells #[.int .i64 a, .int .i64 b, .int .i64 p0, .int .i64 p1, .int .i64 q0, .int .i64 q1] 39)).block bx (blk_lt HO.out)).trans HO.out)
   have HZ1 := am (((below_alloc (Below.refl wr.heap.size wr) (Obj.cells #[.int .i64 a, .int .i64 b, .int .i64 p0, .int .i64 p1, .int .i64 q0, .int .i64 q1] 39)).block bz (blk_lt HZ.out)).trans HZ.out)
   have HLk1 : Aside0 ((wr.alloc (Obj.cells #[.int .i64 a, .int .i64 b, .int .i64 p0, .int .i64 p1, .int .i64 q0, .int .i64 q1] 39)).heap[wr.heap.size]? = some (Obj.cells #[.int .i64 a, .int .i64 b, .int .i64 p0, .int .i64 p1, .int .i64 q0, .int .i64 q1] 39)) := ⟨heap_alloc_new _ _⟩
   clear x0 x1 x2 x3 x4 x5 x6 x7 x8 x9 x10 x11 x12 y0 y1 y2 y3 y4 y5
   generalize wr.alloc (Obj.cells #[.int .i64 a, .int .i64 b, .int .i64 p0, .int .i64 p1, .int .i64 q0, .int .i64 q1] 39) = w1 at *
   generalize wr.heap.size = bl at *
   obtain ⟨l0, l1, l2, l3, l4, l5⟩ := cellsK6 HLk1.out
   cases ha : (a == part) with
   | false =>
    cases hb : (b == part) with
    | false =>
     have HM : Aside0 (takes part node (rd_T39 L i) = false) := ⟨by rw [HX.out]; show ((a == part && (p0 == node || p1 == node)) || (b == part && (q0 == node || q1 == node))) = false; simp [ha, hb]⟩
     go_wp2_with fail
     refine wp_loop_rounds 3 ?_
     rw [rounds_succ]
     go_wp2_with fail
     rw [rounds_succ]
     go_wp2_with fail
     rw [rounds_succ]
     go_wp2_with fail
     go_roundg k1
     case measure => have := HK.out; omega
     case rel => exact ⟨i + 1, (by first | rfl | rw [hw1]), ⟨by have := HK.out; have := oT hlt; omega⟩, HB1, HO1, HZ1, ⟨fun j h0 h1 => by
       by_cases hj : j < i
       ·exact HD.out j h0 hj
       ·have : j = i := by omega
        subst this
        exact HM.out⟩⟩
    | true =>
     cases hq0 : (q0 == node) with
     | true =>
      have e_ : r = true := by rw [← HRr.out]; exact any_hit (by rw [HX.out]; show ((a == part && (p0 == node || p1 == node)) || (b == part && (q0 == node || q1 == node))) = true; simp [ha, hb, hq0]) HI1.out.1 HI1.out.2 HL.out.2.2
      subst e_
      obtain ⟨hz0, hz1, hz2, hz3⟩ := cellsK4 HZ1.out
      obtain ⟨hf0, hf1, hf2, hf3⟩ := frozK4 HZ1.out
      go_wp2_with fail
      refine wp_loop_rounds 3 ?_
      rw [rounds_succ]
      go_wp2_with fail
      refine bodyPost_ret (results_ct rfl _ _ bz 93 #[.int .i64 node, .int .i64 i, .int .i64 0, .int .i64 1] (0, 0) _ rfl (by
       have h := blk_set (blk_set (blk_set (blk_set (HZ1.out) 0 (.int .i64 node)) 1 (.int .i64 i)) 2 (.int .i64 0)) 3 (.int .i64 1)
       simpa using h) Tryd.underlying93 rfl (by kernel_rfl)) rfl ?_
      exact ⟨⟨_, _, _, _, rfl⟩, (((HB1.out.setCell HBz.out _).setCell HBz.out _).setCell HBz.out _).setCell HBz.out _⟩
     | false =>
      cases hq1 : (q1 == node) with
      | true =>
       have e_ : r = true := by rw [← HRr.out]; exact any_hit (by rw [HX.out]; show ((a == part && (p0 == node || p1 == node)) || (b == part && (q0 == node || q1 == node))) = true; simp [ha, hb, hq0, hq1]) HI1.out.1 HI1.out.2 HL.out.2.2
       subst e_
       obtain ⟨hz0, hz1, hz2, hz3⟩ := cellsK4 HZ1.out
       obtain ⟨hf0, hf1, hf2, hf3⟩ := frozK4 HZ1.out
       go_wp2_with fail
       refine wp_loop_rounds 3 ?_
       rw [rounds_succ]
       go_wp2_with fail
       rw [rounds_succ]
       go_wp2_with fail
       refine bodyPost_ret (results_ct rfl _ _ bz 93 #[.int .i64 node, .int .i64 i, .int .i64 1, .int .i64 1] (0, 0) _ rfl (by
        have h := blk_set (blk_set (blk_set (blk_set (HZ1.out) 0 (.int .i64 node)) 1 (.int .i64 i)) 2 (.int .i64 1)) 3 (.int .i64 1)
        simpa using h) Tryd.underlying93 rfl (by kernel_rfl)) rfl ?_
       exact ⟨⟨_, _, _, _, rfl⟩, (((HB1.out.setCell HBz.out _).setCell HBz.out _).setCell HBz.out _).setCell HBz.out _⟩
      | false =>
       have HM : Aside0 (takes part node (rd_T39 L i) = false) := ⟨by rw [HX.out]; show ((a == part && (p0 == node || p1 == node)) || (b == part && (q0 == node || q1 == node))) = false; simp [ha, hb, hq0, hq1]⟩
       go_wp2_with fail
       refine wp_loop_rounds 3 ?_
       rw [rounds_succ]
       go_wp2_with fail
       rw [rounds_succ]
       go_wp2_with fail
       rw [rounds_succ]
       go_wp2_with fail
       go_roundg k1
       case measure => have := HK.out; omega
       case rel => exact ⟨i + 1, (by first | rfl | rw [hw1]), ⟨by have := HK.out; have := oT hlt; omega⟩, HB1, HO1, HZ1, ⟨fun j h0 h1 => by
         by_cases hj : j < i
         ·exact HD.out j h0 hj
         ·have : j = i := by omega
          subst this
          exact HM.out⟩⟩
   | true =>
    cases hb : (b == part) with
    | false =>
     cases hp0 : (p0 == node) with
     | true =>
      have e_ : r = true := by rw [← HRr.out]; exact any_hit (by rw [HX.out]; show ((a == part && (p0 == node || p1 == node)) || (b == part && (q0 == node || q1 == node))) = true; simp [ha, hb, hp0]) HI1.out.1 HI1.out.2 HL.out.2.2
      subst e_
      obtain ⟨hz0, hz1, hz2, hz3⟩ := cellsK4 HZ1.out
      obtain ⟨hf0, hf1, hf2, hf3⟩ := frozK4 HZ1.out
      go_wp2_with fail
      refine wp_loop_rounds 3 ?_
      rw [rounds_succ]
      go_wp2_with fail
      refine bodyPost_ret (results_ct rfl _ _ bz 93 #[.int .i64 node, .int .i64 i, .int .i64 0, .int .i64 0] (0, 0) _ rfl (by
       have h := blk_set (blk_set (blk_set (blk_set (HZ1.out) 0 (.int .i64 node)) 1 (.int .i64 i)) 2 (.int .i64 0)) 3 (.int .i64 0)
       simpa using h) Tryd.underlying93 rfl (by kernel_rfl)) rfl ?_
      exact ⟨⟨_, _, _, _, rfl⟩, (((HB1.out.setCell HBz.out _).setCell HBz.out _).setCell HBz.out _).setCell HBz.out _⟩
     | false =>
      cases hp1 : (p1 == node) with
      | true =>
       have e_ : r = true := by rw [← HRr.out]; exact any_hit (by rw [HX.out]; show ((a == part && (p0 == node || p1 == node)) || (b == part && (q0 == node || q1 == node))) = true; simp [ha, hb, hp0, hp1]) HI1.out.1 HI1.out.2 HL.out.2.2
       subst e_
       obtain ⟨hz0, hz1, hz2, hz3⟩ := cellsK4 HZ1.out
       obtain ⟨hf0, hf1, hf2, hf3⟩ := frozK4 HZ1.out
       go_wp2_with fail
       refine wp_loop_rounds 3 ?_
       rw [rounds_succ]
       go_wp2_with fail
       rw [rounds_succ]
       go_wp2_with fail
       refine bodyPost_ret (results_ct rfl _ _ bz 93 #[.int .i64 node, .int .i64 i, .int .i64 1, .int .i64 0] (0, 0) _ rfl (by
        have h := blk_set (blk_set (blk_set (blk_set (HZ1.out) 0 (.int .i64 node)) 1 (.int .i64 i)) 2 (.int .i64 1)) 3 (.int .i64 0)
        simpa using h) Tryd.underlying93 rfl (by kernel_rfl)) rfl ?_
       exact ⟨⟨_, _, _, _, rfl⟩, (((HB1.out.setCell HBz.out _).setCell HBz.out _).setCell HBz.out _).setCell HBz.out _⟩
      | false =>
       have HM : Aside0 (takes part node (rd_T39 L i) = false) := ⟨by rw [HX.out]; show ((a == part && (p0 == node || p1 == node)) || (b == part && (q0 == node || q1 == node))) = false; simp [ha, hb, hp0, hp1]⟩
       go_wp2_with fail
       refine wp_loop_rounds 3 ?_
       rw [rounds_succ]
       go_wp2_with fail
       rw [rounds_succ]
       go_wp2_with fail
       rw [rounds_succ]
       go_wp2_with fail
       go_roundg k1
       case measure => have := HK.out; omega
       case rel => exact ⟨i + 1, (by first | rfl | rw [hw1]), ⟨by have := HK.out; have := oT hlt; omega⟩, HB1, HO1, HZ1, ⟨fun j h0 h1 => by
         by_cases hj : j < i
         ·exact HD.out j h0 hj
         ·have : j = i := by omega
          subst this
          exact HM.out⟩⟩
    | true =>
     cases hp0 : (p0 == node) with
     | true =>
      have e_ : r = true := by rw [← HRr.out]; exact any_hit (by rw [HX.out]; show ((a == part && (p0 == node || p1 == node)) || (b == part && (q0 == node || q1 == node))) = true; simp [ha, hb, hp0]) HI1.out.1 HI1.out.2 HL.out.2.2
      subst e_
      obtain ⟨hz0, hz1, hz2, hz3⟩ := cellsK4 HZ1.out
      obtain ⟨hf0, hf1, hf2, hf3⟩ := frozK4 HZ1.out
      go_wp2_with fail
      refine wp_loop_rounds 3 ?_
      rw [rounds_succ]
      go_wp2_with fail
      refine bodyPost_ret (results_ct rfl _ _ bz 93 #[.int .i64 node, .int .i64 i, .int .i64 0, .int .i64 0] (0, 0) _ rfl (by
       have h := blk_set (blk_set (blk_set (blk_set (HZ1.out) 0 (.int .i64 node)) 1 (.int .i64 i)) 2 (.int .i64 0)) 3 (.int .i64 0)
       simpa using h) Tryd.underlying93 rfl (by kernel_rfl)) rfl ?_
      exact ⟨⟨_, _, _, _, rfl⟩, (((HB1.out.setCell HBz.out _).setCell HBz.out _).setCell HBz.out _).setCell HBz.out _⟩
     | false =>
      cases hq0 : (q0 == node) with
      | true =>
       have e_ : r = true := by rw [← HRr.out]; exact any_hit (by rw [HX.out]; show ((a == part && (p0 == node || p1 == node)) || (b == part && (q0 == node || q1 == node))) = true; simp [ha, hb, hp0, hq0]) HI1.out.1 HI1.out.2 HL.out.2.2
       subst e_
       obtain ⟨hz0, hz1, hz2, hz3⟩ := cellsK4 HZ1.out
       obtain ⟨hf0, hf1, hf2, hf3⟩ := frozK4 HZ1.out
       go_wp2_with fail
       refine wp_loop_rounds 3 ?_
       rw [rounds_succ]
       go_wp2_with fail
       refine bodyPost_ret (results_ct rfl _ _ bz 93 #[.int .i64 node, .int .i64 i, .int .i64 0, .int .i64 1] (0, 0) _ rfl (by
        have h := blk_set (blk_set (blk_set (blk_set (HZ1.out) 0 (.int .i64 node)) 1 (.int .i64 i)) 2 (.int .i64 0)) 3 (.int .i64 1)
        simpa using h) Tryd.underlying93 rfl (by kernel_rfl)) rfl ?_
       exact ⟨⟨_, _, _, _, rfl⟩, (((HB1.out.setCell HBz.out _).setCell HBz.out _).setCell HBz.out _).setCell HBz.out _⟩
      | false =>
       cases hp1 : (p1 == node) with
       | true =>
        have e_ : r = true := by rw [← HRr.out]; exact any_hit (by rw [HX.out]; show ((a == part && (p0 == node || p1 == node)) || (b == part && (q0 == node || q1 == node))) = true; simp [ha, hb, hp0, hq0, hp1]) HI1.out.1 HI1.out.2 HL.out.2.2
        subst e_
        obtain ⟨hz0, hz1, hz2, hz3⟩ := cellsK4 HZ1.out
        obtain ⟨hf0, hf1, hf2, hf3⟩ := frozK4 HZ1.out
        go_wp2_with fail
        refine wp_loop_rounds 3 ?_
        rw [rounds_succ]
        go_wp2_with fail
        rw [rounds_succ]
        go_wp2_with fail
        refine bodyPost_ret (results_ct rfl _ _ bz 93 #[.int .i64 node, .int .i64 i, .int .i64 1, .int .i64 0] (0, 0) _ rfl (by
         have h := blk_set (blk_set (blk_set (blk_set (HZ1.out) 0 (.int .i64 node)) 1 (.int .i64 i)) 2 (.int .i64 1)) 3 (.int .i64 0)
         simpa using h) Tryd.underlying93 rfl (by kernel_rfl)) rfl ?_
        exact ⟨⟨_, _, _, _, rfl⟩, (((HB1.out.setCell HBz.out _).setCell HBz.out _).setCell HBz.out _).setCell HBz.out _⟩
       | false =>
        cases hq1 : (q1 == node) with
        | true =>
         have e_ : r = true := by rw [← HRr.out]; exact any_hit (by rw [HX.out]; show ((a == part && (p0 == node || p1 == node)) || (b == part && (q0 == node || q1 == node))) = true; simp [ha, hb, hp0, hq0, hp1, hq1]) HI1.out.1 HI1.out.2 HL.out.2.2
         subst e_
         obtain ⟨hz0, hz1, hz2, hz3⟩ := cellsK4 HZ1.out
         obtain ⟨hf0, hf1, hf2, hf3⟩ := frozK4 HZ1.out
         go_wp2_with fail
         refine wp_loop_rounds 3 ?_
         rw [rounds_succ]
         go_wp2_with fail
         rw [rounds_succ]
         go_wp2_with fail
         refine bodyPost_ret (results_ct rfl _ _ bz 93 #[.int .i64 node, .int .i64 i, .int .i64 1, .int .i64 1] (0, 0) _ rfl (by
          have h := blk_set (blk_set (blk_set (blk_set (HZ1.out) 0 (.int .i64 node)) 1 (.int .i64 i)) 2 (.int .i64 1)) 3 (.int .i64 1)
          simpa using h) Tryd.underlying93 rfl (by kernel_rfl)) rfl ?_
         exact ⟨⟨_, _, _, _, rfl⟩, (((HB1.out.setCell HBz.out _).setCell HBz.out _).setCell HBz.out _).setCell HBz.out _⟩
        | false =>
         have HM : Aside0 (takes part node (rd_T39 L i) = false) := ⟨by rw [HX.out]; show ((a == part && (p0 == node || p1 == node)) || (b == part && (q0 == node || q1 == node))) = false; simp [ha, hb, hp0, hq0, hp1, hq1]⟩
         go_wp2_with fail
         refine wp_loop_rounds 3 ?_
         rw [rounds_succ]
         go_wp2_with fail
         rw [rounds_succ]
         go_wp2_with fail
         rw [rounds_succ]
         go_wp2_with fail
         go_roundg k1
         case measure => have := HK.out; omega
         case rel => exact ⟨i + 1, (by first | rfl | rw [hw1]), ⟨by have := HK.out; have := oT hlt; omega⟩, HB1, HO1, HZ1, ⟨fun j h0 h1 => by
           by_cases hj : j < i
           ·exact HD.out j h0 hj
           ·have : j = i := by omega
            subst this
            exact HM.out⟩⟩
  ·have hlt : decide (i < nl) = false := dF hi1
   have e_ : r = false := by rw [← HRr.out]; exact any_miss (fun j h0 h1 => HD.out j h0 (by omega)) HL.out.2.1 HL.out.2.2
   subst e_
   obtain ⟨hz0, hz1, hz2, hz3⟩ := cellsK4 HZ.out
   obtain ⟨hf0, hf1, hf2, hf3⟩ := frozK4 HZ.out
   go_wp2_with fail
   refine bodyPost_ret (results_ct rfl _ _ bz 93 #[.int .i64 0, .int .i64 0, .int .i64 0, .int .i64 0] (0, 0) _ rfl (by
    have h := blk_set (blk_set (blk_set (blk_set HZ.out 0 (.int .i64 0)) 1 (.int .i64 0)) 2 (.int .i64 0)) 3 (.int .i64 0)
    simpa using h) Tryd.underlying93 rfl (by kernel_rfl)) rfl ?_
   exact ⟨⟨_, _, _, _, rfl⟩, (((HB.out.setCell HBz.out _).setCell HBz.out _).setCell HBz.out _).setCell HBz.out _⟩
end Go.Proofs.YtbefbhghmommhaaDoor.MWo
namespace Go.Proofs.YtbefbhghmommhaaDoor.MWo
open Go.RowKit Go.Proofs.YtbefbhghmommhaaDoorW.PrintWords Go.Proofs.YtbefbhghmommhaaDoorW.PrintLast Go.Proofs.YtbefbhghmommhaaDoorW.PrintMore
attribute [local go_sem] mp_u32s mp_u32m mp_u8s mp_u8m max2_int min2_int max_two min_two max_three min_three max_four min_four
set_option linter.unusedVariables false
set_option linter.unusedSimpArgs false
def dr5_is.f (a0 : Int) (a1 : Int) : Option (Bool) := if a0 ≥ 0 then (some (decide (a0 < a1))) else (some false)
set_option maxHeartbeats 8000000 in
set_option maxRecDepth 100000 in
theorem dr5_is.calls (a0 : Int) (a1 : Int) (r : Bool) (w : World) (h : dr5_is.f a0 a1 = some r) :
  Calls Tryd.prog 26 #[.int .i64 a0, .int .i64 a1] w fun e w' => e = .returned (.bool r) ∧ Drawn0 w w' := by
 have H : (if a0 ≥ 0 then (some (decide (a0 < a1))) else (some false)) = some r := h
 clear h
 by_cases c3 : a0 ≥ 0
 ·rw [if_pos c3] at H
  have c3b0 : decide (0 ≤ a0) = true := dT c3
  clear c3
  obtain rfl := Option.some.inj H
  go_enter Tryd.func26, Tryd.ntmps26
  go_wp2
  go_ret
  exact ⟨sd, dn⟩
 ·rw [if_neg c3] at H
  have c3b0 : decide (0 ≤ a0) = false := dF c3
  clear c3
  obtain rfl := Option.some.inj H
  go_enter Tryd.func26, Tryd.ntmps26
  go_wp2
  go_ret
  exact ⟨sd, dn⟩
end Go.Proofs.YtbefbhghmommhaaDoor.MWo
