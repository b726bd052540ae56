/- Texts of this claim, laid together by a program (wip/g/merge5.py): MWox56, MWox76, MWox77, MWox78, MWox79, MWox74, MWox50, MWox51, PuW, HRa, MWox38, MWox39, MWox40, MWox41, MWox57, MWox58. -/
import Derived.Test.YtbefbhghmommhaaGreatDoorZWr4
import Derived.Test.YtbefbhghmommhaaGreatDoorZWr18
namespace Go.Proofs.YtbefbhghmommhaaGreatDoor.MWo
open Go.RowKit Go.Proofs.YtbefbhghmommhaaGreatDoorW.PrintWords Go.Proofs.YtbefbhghmommhaaGreatDoorW.PrintLast Go.Proofs.YtbefbhghmommhaaGreatDoorW.PrintMore
attribute [local go_sem] mp_u32s mp_u32m mp_u8s mp_u8m max2_int min2_int max_two min_two max_three min_three max_four min_four
set_option linter.unusedVariables false
set_option linter.unusedSimpArgs false
def dr26_synced.l0 : Nat → List (S55) → Int → List (S55) → Bool → Int → List Int → Option ((List (S55)))
 | 0, _, _, _, _, _, _ => none
 | k + 1, x3, x4, x190000, x190001, x190002, x190003 => if x4 < (x190000.length : Int) then (if 0 ≤ x4 then (if ((rd_T55 x190000 x4).f0) = 2 then (if x3.length < 1759218604441 then (dr26_synced.l0 k (x3 ++ [(⟨(rd_T55 x190000 x4).f0, (rd_T55 x190000 x4).f1, (rd_T55 x190000 x4).f2, (rd_T55 x190000 x4).f3, (rd_T55 x190000 x4).f4, (rd_T55 x190000 x4).f5, (rd_T55 x190000 x4).f6, (rd_T55 x190000 x4).f7⟩ : S55)]) (wrap64 (x4 + 1)) x190000 x190001 x190002 x190003) else (none)) else (dr26_synced.l0 k x3 (wrap64 (x4 + 1)) x190000 x190001 x190002 x190003)) else (none)) else (some x3)
def dr26_synced.f (k : Nat) (l0_0 : List (S55)) (a0_1 : Bool) (a0_2 : Int) (l0_3 : List Int) : Option ((List (S55))) := dr26_synced.l0 k ([] : List (S55)) 0 l0_0 a0_1 a0_2 l0_3
set_option maxHeartbeats 8000000 in
set_option maxRecDepth 100000 in
theorem dr26_synced.calls (k : Nat) (P0_0_ : Nat → Prop) (A0_0 : Option Addr) (c0_0 : Nat) (l0_0 : List (S55)) (a0_1 : Bool) (a0_2 : Int) (A0_3 : Option Addr) (c0_3 : Nat) (l0_3 : List Int) (r : List (S55)) (w : World) (hs0_0 : Kd.V k55 55 w w.heap.size (fun k_ => P0_0_ k_) (.slice A0_0 l0_0.length c0_0) l0_0) (hr0_3 : Kd.C (Kd.int .i64) w A0_3 l0_3.length l0_3) (hc0_3 : l0_3.length ≤ c0_3) (h : dr26_synced.f k l0_0 a0_1 a0_2 l0_3 = some r) :
  Calls Tryz.prog 28 #[.agg #[.slice A0_0 l0_0.length c0_0, .bool a0_1, .int .i64 a0_2, .slice A0_3 l0_3.length c0_3]] w fun e w' => ∃ v0_ : Value, e = .returned (v0_) ∧ Kd.N k55 55 w' w.heap.size (fun k_ => (P0_0_ k_ ∨ w.heap.size ≤ k_)) v0_ r ∧ Below w.heap.size w w' := by
 have hu37 := Tryz.underlying37
 have hu55 := Tryz.underlying55
 have HO0_0 := am (show Kd.V k55 55 w w.heap.size (fun k_ => (P0_0_ k_ ∨ w.heap.size ≤ k_)) (.slice A0_0 l0_0.length c0_0) l0_0 from Kd.V_mono hs0_0 (fun k_ hk => .inl hk))
 have HR0_3 := am hr0_3
 have HC0_3 := am hc0_3
 clear hr0_3 hc0_3
 have HB := am (Below.refl w.heap.size w)
 have H : (dr26_synced.l0 k ([] : List (S55)) 0 l0_0 a0_1 a0_2 l0_3) = some r := h
 clear h
 have H' := am H
 clear H
 go_enter Tryz.func28, Tryz.ntmps28
 go_wp2_with (first | ((with_reducible refine gate_dst (N := 1) rfl ?_); refine bxe 1 #[.slice A0_0 l0_0.length c0_0, .bool a0_1, .int .i64 a0_2, .slice A0_3 l0_3.length c0_3] 37 ?_; intro gb189 hg w2 hbox hb; have n0_ := am (Kd.V_below (Kd.V_elderB (by (with_reducible repeat (first | apply Kd.V_alloc | apply Kd.V_drewN | apply Kd.V_drew)); exact HO0_0.out) gb189 (Nat.le_of_eq hg.symm)) hb); have n1_ := am (below_step bl0 hb); have n2_ := am (hbox); have n3_ := am (gw0 hg); have n4_ := am (gw0 hg); clear HO0_0; clear HB; have HO0_0 := n0_; have HB := n1_; have BK189 := n2_; have GW189 := n3_; have GE189 := n4_; clear n0_ n1_ n2_ n3_ n4_; clear hb hbox hg))
 go_loopg [3, 4] k (fun kq v3 v4 w' => ∃ (x3_1 : List (S55)) (x4_1 : Int), v4 = .int .i64 x4_1 ∧ Aside0 (dr26_synced.l0 kq x3_1 x4_1 l0_0 a0_1 a0_2 l0_3 = some r) ∧ Aside0 (kq ≤ k) ∧ Aside0 (Kd.N k55 55 w' w.heap.size (fun k_ => (P0_0_ k_ ∨ w.heap.size ≤ k_) ∧ k_ ≠ gb189) v3 x3_1) ∧ Aside0 (Kd.V k55 55 w' w.heap.size (fun k_ => (P0_0_ k_ ∨ w.heap.size ≤ k_) ∧ some k_ ≠ (v3 : Value).ownBlock ∧ k_ ≠ gb189) (.slice A0_0 l0_0.length c0_0) l0_0) ∧ Aside0 (w'.heap[gb189]? = some (.cells #[(.slice A0_0 l0_0.length c0_0), .bool a0_1, .int .i64 a0_2, (.slice A0_3 l0_3.length c0_3)] 37 (0, 0))) ∧ Aside0 (Below w.heap.size w w'))
 case atStart => exact ⟨(([] : List (S55))), (0), bx, H', ⟨Nat.le_refl _⟩, ⟨by first | exact Kd.S_nil _ _ _ _ _ | exact Kd.N_nil _ _ _ _ _ | exact Kd.V_nil _ _ _ _ _ | exact Kd.Q_nil _ _ _ _ _ | exact Kd.R_nil _ _ _ _ _⟩, ⟨by (with_reducible repeat (first | apply Kd.V_alloc | apply Kd.V_drewN | apply Kd.V_drew)); exact Kd.V_mono HO0_0.out (fun _ hk => ⟨hk.1, ⟨(by simp [Value.ownBlock]), hk.2⟩⟩)⟩, ⟨bk BK189⟩, ⟨bl1 GE189⟩⟩
 case round =>
  clear H'
  try clear c2
  try clear p2
  obtain ⟨x3_1, x4_1, rfl, HA, HK1, HO_3, HO_190000, BK189, HB⟩ := hrel
  cases gk with
  | zero => exact absurd HA.out (by simp [dr26_synced.l0])
  | succ k1 =>
   have H := HA.out
   clear HA
   simp only [dr26_synced.l0] at H
   by_cases c3 : x4_1 < (l0_0.length : Int)
   ·rw [if_pos c3] at H
    have c3b0 : decide (x4_1 < (l0_0.length : Int)) = true := dT c3
    clear c3
    by_cases c4 : 0 ≤ x4_1
    ·rw [if_pos c4] at H
     have c4b0 : decide (0 ≤ x4_1) = true := dT c4
     clear c4
     by_cases c5 : ((rd_T55 l0_0 x4_1).f0) = 2
     ·rw [if_pos c5] at H
      have c5b0 : (((rd_T55 l0_0 x4_1).f0) == 2) = true := beq_iff_eq.mpr c5
      have c5b1 : (((rd_T55 l0_0 x4_1).f0) != 2) = false := bne_eq_false_iff_eq.mpr c5
      clear c5
      by_cases c6 : x3_1.length < 1759218604441
      ·rw [if_pos c6] at H
       have LMc6 := am c6
       clear c6
       obtain ⟨y192, hy192⟩ : ∃ y_ : List (S55), y_ = (x3_1 ++ [(⟨(rd_T55 l0_0 x4_1).f0, (rd_T55 l0_0 x4_1).f1, (rd_T55 l0_0 x4_1).f2, (rd_T55 l0_0 x4_1).f3, (rd_T55 l0_0 x4_1).f4, (rd_T55 l0_0 x4_1).f5, (rd_T55 l0_0 x4_1).f6, (rd_T55 l0_0 x4_1).f7⟩ : S55)]) := ⟨_, rfl⟩
       replace H : (dr26_synced.l0 k1 y192 (wrap64 (x4_1 + 1)) l0_0 a0_1 a0_2 l0_3) = some r := by first | (rw [hy192]; with_reducible exact H) | (have H2_ := (Option.bind_some _ _).symm.trans H; rw [hy192]; with_reducible exact H2_) | (have H2_ := (Option.bind_some _ _).symm.trans H; with_reducible exact H2_) | with_reducible exact H | (rw [hy192]; exact H) | exact H
       have Ny192 := am hy192
       clear hy192
       have H' := am H
       clear H
       obtain ⟨hcz7_0, hcz7_1, hcz7_2, hcz7_3⟩ := cellsK4 BK189.out
       obtain ⟨hfz7_0, hfz7_1, hfz7_2, hfz7_3⟩ := frozK4 BK189.out
       have p190 : 0 ≤ (x4_1 : Int) := oT asm
       have q190 : x4_1 < (l0_0.length : Int) := oT asm
       obtain ⟨ad190, A190_5, c190_5, e190, hx190_0, hx190_1, hx190_2, hx190_3, hx190_4, hx190_5, hx190_6, hx190_7, hl190_5, hi190_5⟩ := at_T55 (Kd.V_reads' HO_190000.out).2.2 x4_1 p190 q190
       cases e190
       obtain ⟨ce190, hce190, hMe190, hcc190⟩ := Kd.V_get HO_190000.out z55 x4_1 p190 (by first | exact q190 | exact oT asm | (have e_ := (Kd.V_reads' HO_190000.out).1; omega))
       obtain ⟨ua190_5, uc190_5, rfl, ul190_5, ge190_5⟩ := k55_openF hMe190
       have hv190_5 := hcc190 5 _ rfl
       rw [add_field _ _ 5 (by omega)] at hv190_5
       replace hv190_5 := Option.some.inj (hv190_5.symm.trans hx190_5)
       injection hv190_5 with hva_ hvn_ hvc_
       rw [hva_] at ge190_5
       rw [hvc_] at ul190_5
       have HL190_5 := am (show Kd.V (Kd.int .i64) 3 _ w.heap.size _ _ ((rd_T55 l0_0 x4_1).f5) from Kd.V_mk ul190_5 ge190_5)
       clear hva_ hvn_ hvc_ ge190_5 ul190_5
       clear hcc190 hce190
       have HR190_5 := am hi190_5
       have HC190_5 := am hl190_5
       clear hi190_5 hl190_5
       replace p190 := eq_true p190
       replace q190 := eq_true q190
       have p191 : 0 ≤ (x4_1 : Int) := oT asm
       have q191 : x4_1 < (l0_0.length : Int) := oT asm
       obtain ⟨ad191, A191_5, c191_5, e191, hx191_0, hx191_1, hx191_2, hx191_3, hx191_4, hx191_5, hx191_6, hx191_7, hl191_5, hi191_5⟩ := at_T55 (Kd.V_reads' HO_190000.out).2.2 x4_1 p191 q191
       obtain rfl : ad190 = ad191 := (by injection e191)
       obtain ⟨ce191, hce191, hMe191, hcc191⟩ := Kd.V_get HO_190000.out z55 x4_1 p191 (by first | exact q191 | exact oT asm | (have e_ := (Kd.V_reads' HO_190000.out).1; omega))
       obtain ⟨ua191_5, uc191_5, rfl, ul191_5, ge191_5⟩ := k55_openF hMe191
       have hv191_5 := hcc191 5 _ rfl
       rw [add_field _ _ 5 (by omega)] at hv191_5
       replace hv191_5 := Option.some.inj (hv191_5.symm.trans hx191_5)
       injection hv191_5 with hva_ hvn_ hvc_
       rw [hva_] at ge191_5
       rw [hvc_] at ul191_5
       have HL191_5 := am (show Kd.V (Kd.int .i64) 3 _ w.heap.size _ _ ((rd_T55 l0_0 x4_1).f5) from Kd.V_mk ul191_5 ge191_5)
       clear hva_ hvn_ hvc_ ge191_5 ul191_5
       clear hcc191 hce191
       have HR191_5 := am hi191_5
       have HC191_5 := am hl191_5
       clear hi191_5 hl191_5
       replace p191 := eq_true p191
       replace q191 := eq_true q191
       have ea_ := Option.some.inj (hx190_5.symm.trans hx191_5)
       injection ea_ with ea_ en_ ec_
       subst ea_
       subst ec_
       clear en_
       go_wp2_with (first | ((with_reducible refine gate_builtin (b := .append) (xs := #[.tmp 19, .tmp 25]) rfl ?_); at_builtin; refine Kd.N_append k55 (w0 := w) w.heap.size rfl (.tmp 19) (.tmp 25) 32 55 (.agg #[(.int .i64 0), (.int .i64 0), (.int .i64 0), (.int .i64 0), (.int .i64 0), (.slice none 0 0), (.int .i64 0), (.int .i64 0)]) 80 rfl Tryz.underlying32 info55 rfl (by decide) (by omega) u3 x3_1 (⟨(rd_T55 l0_0 x4_1).f0, (rd_T55 l0_0 x4_1).f1, (rd_T55 l0_0 x4_1).f2, (rd_T55 l0_0 x4_1).f3, (rd_T55 l0_0 x4_1).f4, (rd_T55 l0_0 x4_1).f5, (rd_T55 l0_0 x4_1).f6, (rd_T55 l0_0 x4_1).f7⟩ : S55) [.int .i64 ((rd_T55 l0_0 x4_1).f0), .int .i64 ((rd_T55 l0_0 x4_1).f1), .int .i64 ((rd_T55 l0_0 x4_1).f2), .int .i64 ((rd_T55 l0_0 x4_1).f3), .int .i64 ((rd_T55 l0_0 x4_1).f4), .slice A190_5 ((rd_T55 l0_0 x4_1).f5).length c190_5, .int .i64 ((rd_T55 l0_0 x4_1).f6), .int .i64 ((rd_T55 l0_0 x4_1).f7)] (fun k_ => (P0_0_ k_ ∨ w.heap.size ≤ k_) ∧ k_ ≠ gb189) (fun k_ => ((fun k_ => (P0_0_ k_ ∨ w.heap.size ≤ k_) ∧ k_ ≠ gb189)) k_ ∧ some k_ ≠ (u3 : Value).ownBlock) rfl rfl ?aP (fun _ hk => hk) ?aF ?aO ?aB ?aS ?aL ?_; (case aP => exact (k55_mkF _ _ (⟨(rd_T55 l0_0 x4_1).f0, (rd_T55 l0_0 x4_1).f1, (rd_T55 l0_0 x4_1).f2, (rd_T55 l0_0 x4_1).f3, (rd_T55 l0_0 x4_1).f4, (rd_T55 l0_0 x4_1).f5, (rd_T55 l0_0 x4_1).f6, (rd_T55 l0_0 x4_1).f7⟩ : S55) (Kd.V_reads' (Kd.V_mono (ok' := (fun k_ => ((fun k_ => (P0_0_ k_ ∨ w.heap.size ≤ k_) ∧ k_ ≠ gb189)) k_ ∧ some k_ ≠ (u3 : Value).ownBlock)) (HL191_5.out) (fun k_ hk => ⟨⟨hk.1, hk.2.2⟩, hk.2.1⟩))).2.1 (Kd.V_F (Kd.V_mono (ok' := (fun k_ => ((fun k_ => (P0_0_ k_ ∨ w.heap.size ≤ k_) ∧ k_ ≠ gb189)) k_ ∧ some k_ ≠ (u3 : Value).ownBlock)) (HL191_5.out) (fun k_ hk => ⟨⟨hk.1, hk.2.2⟩, hk.2.1⟩))))); (case aB => exact (bl1 GE189)); (case aF => exact (fun k_ hk => ⟨(.inr (Nat.le_trans (below_size (bl1 GE189)) hk)), Kd.freshB (g := gb189) (o := .cells #[.slice (some ad190) l0_0.length c0_0, .bool a0_1, .int .i64 a0_2, .slice A0_3 l0_3.length c0_3] 37 (0, 0)) (bk BK189) k_ hk⟩)); (case aO => exact (kn HO_3.out)); (case aS => exact (below_size (bl1 GE189))); (case aL => have := LMc6.out; omega); intro v193 w8 ho hb hg hat; rw [← Ny192.out] at ho; have n0_ := am (Kd.V_afterv (ok := (fun k_ => (P0_0_ k_ ∨ w.heap.size ≤ k_) ∧ k_ ≠ gb189)) (by (with_reducible repeat (first | apply Kd.V_alloc | apply Kd.V_drewN | apply Kd.V_drew)); exact Kd.V_mono HO_190000.out (fun _ hk => ⟨⟨hk.1, hk.2.2⟩, hk.2.1⟩)) hg hat); have n1_ := am (blk_grown (bk BK189) hg (Kd.N_ne HO_3.out BK189.out (by decide))); have n2_ := am (Kd.V_afterv (ok := (fun k_ => (P0_0_ k_ ∨ w.heap.size ≤ k_) ∧ k_ ≠ gb189)) (by (with_reducible repeat (first | apply Kd.V_alloc | apply Kd.V_drewN | apply Kd.V_drew)); exact Kd.V_mono HL190_5.out (fun _ hk => ⟨⟨hk.1, hk.2.2⟩, hk.2.1⟩)) hg hat); have n3_ := am (Kd.V_afterv (ok := (fun k_ => (P0_0_ k_ ∨ w.heap.size ≤ k_) ∧ k_ ≠ gb189)) (by (with_reducible repeat (first | apply Kd.V_alloc | apply Kd.V_drewN | apply Kd.V_drew)); exact Kd.V_mono HL191_5.out (fun _ hk => ⟨⟨hk.1, hk.2.2⟩, hk.2.1⟩)) hg hat); have n4_ := am (hb); have n5_ := am (ho); clear HO_190000; clear BK189; clear HL190_5; clear HL191_5; clear HB; clear HO_3; have HO_190000 := n0_; have BK189 := n1_; have HL190_5 := n2_; have HL191_5 := n3_; have HB := n4_; have HO194 := n5_; clear n0_ n1_ n2_ n3_ n4_ n5_; clear ho hb hg hat))
       go_roundg k1
       case measure => have := HK1.out; omega
       case rel => exact ⟨(y192), (wrap64 (x4_1 + 1)), bx, H', ⟨by have := HK1.out; omega⟩, ⟨kn HO194.out⟩, ⟨by (with_reducible repeat (first | apply Kd.V_alloc | apply Kd.V_drewN | apply Kd.V_drew)); exact Kd.V_mono HO_190000.out (fun _ hk => ⟨hk.1.1, ⟨hk.2, hk.1.2⟩⟩)⟩, ⟨bk BK189⟩, ⟨bl1 GE189⟩⟩
      ·rw [if_neg c6] at H
       exact absurd H (by simp)
     ·rw [if_neg c5] at H
      have c5b0 : (((rd_T55 l0_0 x4_1).f0) == 2) = false := beq_eq_false_iff_ne.mpr c5
      have c5b1 : (((rd_T55 l0_0 x4_1).f0) != 2) = true := bne_iff_ne.mpr c5
      have H' := am H
      clear H
      obtain ⟨hcz9_0, hcz9_1, hcz9_2, hcz9_3⟩ := cellsK4 BK189.out
      obtain ⟨hfz9_0, hfz9_1, hfz9_2, hfz9_3⟩ := frozK4 BK189.out
      have p190 : 0 ≤ (x4_1 : Int) := oT asm
      have q190 : x4_1 < (l0_0.length : Int) := oT asm
      obtain ⟨ad190, A190_5, c190_5, e190, hx190_0, hx190_1, hx190_2, hx190_3, hx190_4, hx190_5, hx190_6, hx190_7, hl190_5, hi190_5⟩ := at_T55 (Kd.V_reads' HO_190000.out).2.2 x4_1 p190 q190
      cases e190
      obtain ⟨ce190, hce190, hMe190, hcc190⟩ := Kd.V_get HO_190000.out z55 x4_1 p190 (by first | exact q190 | exact oT asm | (have e_ := (Kd.V_reads' HO_190000.out).1; omega))
      obtain ⟨ua190_5, uc190_5, rfl, ul190_5, ge190_5⟩ := k55_openF hMe190
      have hv190_5 := hcc190 5 _ rfl
      rw [add_field _ _ 5 (by omega)] at hv190_5
      replace hv190_5 := Option.some.inj (hv190_5.symm.trans hx190_5)
      injection hv190_5 with hva_ hvn_ hvc_
      rw [hva_] at ge190_5
      rw [hvc_] at ul190_5
      have HL190_5 := am (show Kd.V (Kd.int .i64) 3 _ w.heap.size _ _ ((rd_T55 l0_0 x4_1).f5) from Kd.V_mk ul190_5 ge190_5)
      clear hva_ hvn_ hvc_ ge190_5 ul190_5
      clear hcc190 hce190
      have HR190_5 := am hi190_5
      have HC190_5 := am hl190_5
      clear hi190_5 hl190_5
      replace p190 := eq_true p190
      replace q190 := eq_true q190
      go_wp2
      go_roundg k1
      case measure => have := HK1.out; omega
      case rel => exact ⟨(x3_1), (wrap64 (x4_1 + 1)), bx, H', ⟨by have := HK1.out; omega⟩, ⟨kn HO_3.out⟩, ⟨by (with_reducible repeat (first | apply Kd.V_alloc | apply Kd.V_drewN | apply Kd.V_drew)); exact HO_190000.out⟩, ⟨bk BK189⟩, ⟨bl1 GE189⟩⟩
    ·rw [if_neg c4] at H
     exact absurd H (by simp)
   ·rw [if_neg c3] at H
    have c3b0 : decide (x4_1 < (l0_0.length : Int)) = false := dF c3
    clear c3
    obtain rfl := Option.some.inj H
    obtain ⟨hcz10_0, hcz10_1, hcz10_2, hcz10_3⟩ := cellsK4 BK189.out
    obtain ⟨hfz10_0, hfz10_1, hfz10_2, hfz10_3⟩ := frozK4 BK189.out
    go_wp2
    go_ret
    exact ⟨_, ew, by (with_reducible repeat (first | apply Kd.N_alloc | apply Kd.N_drewN | apply Kd.N_drew)); exact Kd.N_mono HO_3.out (fun _ hk => hk.1), bl1 GE189⟩
def dr26_starts.l0 : Nat → List (S55) → List Int → Int → Option (List Int)
 | 0, _, _, _ => none
 | k + 1, x0, x3, x4 => if x4 < (x0.length : Int) then (if 0 ≤ x4 then (if x3.length < 17592186044416 then (dr26_starts.l0 k x0 (x3 ++ [(rd_T55 x0 x4).f3]) (wrap64 (x4 + 1))) else (none)) else (none)) else (some x3)
def dr26_starts.f (k : Nat) (l0 : List (S55)) : Option (List Int) := dr26_starts.l0 k l0 ([] : List Int) 0
set_option maxHeartbeats 8000000 in
set_option maxRecDepth 100000 in
theorem dr26_starts.calls (k : Nat) (A0 : Option Addr) (c0 : Nat) (l0 : List (S55)) (r : List Int) (w : World) (hr0 : Kd.C k55 w A0 l0.length l0) (hc0 : l0.length ≤ c0) (h : dr26_starts.f k l0 = some r) :
  Calls Tryz.prog 34 #[.slice A0 l0.length c0] w fun e w' => ∃ v0_ : Value, e = .returned (v0_) ∧ Kd.R (Kd.int .i64) 2 w' w.heap.size (fun _ => True) v0_ r ∧ Below w.heap.size w w' := by
 have HR0 := am hr0
 have HC0 := am hc0
 clear hr0 hc0
 have HB := am (Below.refl w.heap.size w)
 have H : (dr26_starts.l0 k l0 ([] : List Int) 0) = some r := h
 clear h
 have H' := am H
 clear H
 go_enter Tryz.func34, Tryz.ntmps34
 go_wp2
 go_loopg [3, 4] k (fun kq v3 v4 w' => ∃ (x3_1 : List Int) (x4_1 : Int), v4 = .int .i64 x4_1 ∧ Aside0 (dr26_starts.l0 kq l0 x3_1 x4_1 = some r) ∧ Aside0 (kq ≤ k) ∧ Aside0 (Kd.R (Kd.int .i64) 2 w' w.heap.size (fun _ => True) v3 x3_1) ∧ Aside0 (Below w.heap.size w w'))
 case atStart => exact ⟨(([] : List Int)), (0), bx, H', ⟨Nat.le_refl _⟩, ⟨by first | exact Kd.R_nil _ _ _ _ _ | exact Kd.N_nil _ _ _ _ _ | exact Kd.V_nil _ _ _ _ _ | exact Kd.Q_nil _ _ _ _ _ | exact Kd.S_nil _ _ _ _ _⟩, ⟨bl0⟩⟩
 case round =>
  clear H'
  obtain ⟨x3_1, x4_1, rfl, HA, HK1, HO_3, HB⟩ := hrel
  cases gk with
  | zero => exact absurd HA.out (by simp [dr26_starts.l0])
  | succ k1 =>
   have H := HA.out
   clear HA
   simp only [dr26_starts.l0] at H
   by_cases c2 : x4_1 < (l0.length : Int)
   ·rw [if_pos c2] at H
    have c2b0 : decide (x4_1 < (l0.length : Int)) = true := dT c2
    clear c2
    by_cases c3 : 0 ≤ x4_1
    ·rw [if_pos c3] at H
     have c3b0 : decide (0 ≤ x4_1) = true := dT c3
     clear c3
     by_cases c4 : x3_1.length < 17592186044416
     ·rw [if_pos c4] at H
      have LMc4 := am c4
      clear c4
      obtain ⟨y259, hy259⟩ : ∃ y_ : List Int, y_ = (x3_1 ++ [(rd_T55 l0 x4_1).f3]) := ⟨_, rfl⟩
      replace H : (dr26_starts.l0 k1 l0 y259 (wrap64 (x4_1 + 1))) = some r := by first | (rw [hy259]; with_reducible exact H) | (have H2_ := (Option.bind_some _ _).symm.trans H; rw [hy259]; with_reducible exact H2_) | (have H2_ := (Option.bind_some _ _).symm.trans H; with_reducible exact H2_) | with_reducible exact H | (rw [hy259]; exact H) | exact H
      have Ny259 := am hy259
      clear hy259
      have H' := am H
      clear H
      have p258 : 0 ≤ (x4_1 : Int) := oT asm
      have q258 : x4_1 < (l0.length : Int) := oT asm
      obtain ⟨ad258, A258_5, c258_5, e258, hx258_0, hx258_1, hx258_2, hx258_3, hx258_4, hx258_5, hx258_6, hx258_7, hl258_5, hi258_5⟩ := at_T55 HR0.out x4_1 p258 q258
      cases e258
      replace hx258_0 := hxk HB hx258_0
      replace hx258_1 := hxk HB hx258_1
      replace hx258_2 := hxk HB hx258_2
      replace hx258_3 := hxk HB hx258_3
      replace hx258_4 := hxk HB hx258_4
      replace hx258_5 := hxk HB hx258_5
      replace hx258_6 := hxk HB hx258_6
      replace hx258_7 := hxk HB hx258_7
      have HR258_5 := am hi258_5
      have HC258_5 := am hl258_5
      clear hi258_5 hl258_5
      replace p258 := eq_true p258
      replace q258 := eq_true q258
      go_wp2_with (first | ((with_reducible refine gate_builtin (b := .append) (xs := #[.tmp 11, .tmp 17]) rfl ?_); at_builtin; refine Kd.R_append (Kd.int .i64) (w0 := w) w.heap.size rfl (.tmp 11) (.tmp 17) 61 2 (.int .i64 0) 8 rfl Tryz.underlying61 info2 rfl (by decide) (by omega) u3 x3_1 ((rd_T55 l0 x4_1).f3) [.int .i64 ((rd_T55 l0 x4_1).f3)] (fun _ => True) (fun _ => False) rfl rfl ?aP (fun _ hk => hk.elim) ?aF ?aO ?aB ?aS ?aL ?_; (case aP => exact rfl); (case aB => exact bl0); (case aF => exact (fun _ _ => trivial)); (case aO => exact (kr HO_3.out)); (case aS => exact (below_size bl0)); (case aL => have := LMc4.out; omega); intro v260 w5 ho hb hg hat; rw [← Ny259.out] at ho; have n0_ := am (hb); have n1_ := am (ho); clear HB; clear HO_3; have HB := n0_; have HO261 := n1_; clear n0_ n1_; clear ho hb hg hat))
      go_roundg k1
      case measure => have := HK1.out; omega
      case rel => exact ⟨(y259), (wrap64 (x4_1 + 1)), bx, H', ⟨by have := HK1.out; omega⟩, ⟨kr HO261.out⟩, ⟨bl0⟩⟩
     ·rw [if_neg c4] at H
      exact absurd H (by simp)
    ·rw [if_neg c3] at H
     exact absurd H (by simp)
   ·rw [if_neg c2] at H
    have c2b0 : decide (x4_1 < (l0.length : Int)) = false := dF c2
    clear c2
    obtain rfl := Option.some.inj H
    go_wp2
    go_ret
    exact ⟨_, ew, kr HO_3.out, bl0⟩
def dr1_Time.f (a0 : Int) : Option (Bool) := if a0 ≥ (-1099511627776) then (some (decide (a0 ≤ 1099511627776))) else (some false)
set_option maxHeartbeats 8000000 in
set_option maxRecDepth 100000 in
theorem dr1_Time.calls (a0 : Int) (r : Bool) (w : World) (h : dr1_Time.f a0 = some r) :
  Calls Tryz.prog 46 #[.int .i64 a0] w fun e w' => e = .returned (.bool r) ∧ Drawn0 w w' := by
 have H : (if a0 ≥ (-1099511627776) then (some (decide (a0 ≤ 1099511627776))) else (some false)) = some r := h
 clear h
 by_cases c2 : a0 ≥ (-1099511627776)
 ·rw [if_pos c2] at H
  have c2b0 : decide ((-1099511627776) ≤ a0) = true := dT c2
  clear c2
  obtain rfl := Option.some.inj H
  go_enter Tryz.func46, Tryz.ntmps46
  go_wp2
  go_ret
  exact ⟨sd, dn⟩
 ·rw [if_neg c2] at H
  have c2b0 : decide ((-1099511627776) ≤ a0) = false := dF c2
  clear c2
  obtain rfl := Option.some.inj H
  go_enter Tryz.func46, Tryz.ntmps46
  go_wp2
  go_ret
  exact ⟨sd, dn⟩
def dr10_times.l0 : Nat → List Int → Int → Option (Bool)
 | 0, _, _ => none
 | k + 1, x0, x3 => if x3 < (x0.length : Int) then (if 0 ≤ x3 then ((dr1_Time.f (rd x0 x3)).bind fun t263 => (if t263 = true then (dr10_times.l0 k x0 (wrap64 (x3 + 1))) else (some false))) else (none)) else (some true)
def dr10_times.f (k : Nat) (l0 : List Int) : Option (Bool) := dr10_times.l0 k l0 0
set_option maxHeartbeats 8000000 in
set_option maxRecDepth 100000 in
theorem dr10_times.calls (k : Nat) (A0 : Option Addr) (c0 : Nat) (l0 : List Int) (r : Bool) (w : World) (hr0 : Kd.C (Kd.int .i64) w A0 l0.length l0) (hc0 : l0.length ≤ c0) (h : dr10_times.f k l0 = some r) :
  Calls Tryz.prog 59 #[.slice A0 l0.length c0] w fun e w' => e = .returned (.bool r) ∧ Drawn0 w w' := by
 have HR0 := am hr0
 have HC0 := am hc0
 clear hr0 hc0
 have H : (dr10_times.l0 k l0 0) = some r := h
 clear h
 have H' := am H
 clear H
 go_enter Tryz.func59, Tryz.ntmps59
 go_wp2
 go_loopg [3] k (fun kq v3 w' => ∃ (x3_1 : Int), v3 = .int .i64 x3_1 ∧ Aside0 (dr10_times.l0 kq l0 x3_1 = some r) ∧ Aside0 (kq ≤ k) ∧ Drawn0 w w')
 case atStart => exact ⟨(0), bx, H', ⟨Nat.le_refl _⟩, dn⟩
 case round =>
  clear H'
  obtain ⟨x3_1, rfl, HA, HK1, ⟨m1, rfl⟩⟩ := hrel
  cases gk with
  | zero => exact absurd HA.out (by simp [dr10_times.l0])
  | succ k1 =>
   have H := HA.out
   clear HA
   simp only [dr10_times.l0] at H
   by_cases c2 : x3_1 < (l0.length : Int)
   ·rw [if_pos c2] at H
    have c2b0 : decide (x3_1 < (l0.length : Int)) = true := dT c2
    clear c2
    by_cases c3 : 0 ≤ x3_1
    ·rw [if_pos c3] at H
     have c3b0 : decide (0 ≤ x3_1) = true := dT c3
     clear c3
     replace H := bS H
     obtain ⟨t263, A40, H⟩ := H
     replace H : (if t263 = true then (dr10_times.l0 k1 l0 (wrap64 (x3_1 + 1))) else (some false)) = some r := H
     have A4 := am A40
     clear A40
     by_cases c5 : t263 = true
     ·subst c5
      have H1 : (dr10_times.l0 k1 l0 (wrap64 (x3_1 + 1))) = some r := by rw [if_pos rfl] at H; exact H
      clear H
      have H := H1
      clear H1
      have H' := am H
      clear H
      have p262 : 0 ≤ (x3_1 : Int) := oT asm
      have q262 : x3_1 < (l0.length : Int) := oT asm
      obtain ⟨ad262, e262, hx262_0⟩ := Kd.at_int HR0.out x3_1 p262 q262
      cases e262
      replace p262 := eq_true p262
      replace q262 := eq_true q262
      go_wp2_with (first | ((with_reducible refine gate_callee (f := 46) rfl ?_); refine goesL_ (some 14) rfl rfl Tryz.func46 (by kernel_rfl) rfl #[.int .i64 (rd l0 x3_1)] rfl lm ?_; (with_reducible refine (dr1_Time.calls (rd l0 x3_1) true _ A4.out).mono ?_); rintro e w' ⟨rfl, ⟨nd, rfl⟩⟩; refine ⟨_, rfl, ?_⟩))
      go_roundg k1
      case measure => have := HK1.out; omega
      case rel => exact ⟨(wrap64 (x3_1 + 1)), bx, H', ⟨by have := HK1.out; omega⟩, dn⟩
     ·replace c5 := Bool.eq_false_iff.mpr c5
      subst c5
      have H1 : (some false) = some r := by rw [if_neg (show ¬ (false = true) by decide)] at H; exact H
      clear H
      have H := H1
      clear H1
      obtain rfl := Option.some.inj H
      have p262 : 0 ≤ (x3_1 : Int) := oT asm
      have q262 : x3_1 < (l0.length : Int) := oT asm
      obtain ⟨ad262, e262, hx262_0⟩ := Kd.at_int HR0.out x3_1 p262 q262
      cases e262
      replace p262 := eq_true p262
      replace q262 := eq_true q262
      go_wp2_with (first | ((with_reducible refine gate_callee (f := 46) rfl ?_); refine goesL_ (some 14) rfl rfl Tryz.func46 (by kernel_rfl) rfl #[.int .i64 (rd l0 x3_1)] rfl lm ?_; (with_reducible refine (dr1_Time.calls (rd l0 x3_1) false _ A4.out).mono ?_); rintro e w' ⟨rfl, ⟨nd, rfl⟩⟩; refine ⟨_, rfl, ?_⟩))
      go_ret
      exact ⟨sd, dn⟩
    ·rw [if_neg c3] at H
     exact absurd H (by simp)
   ·rw [if_neg c2] at H
    have c2b0 : decide (x3_1 < (l0.length : Int)) = false := dF c2
    clear c2
    obtain rfl := Option.some.inj H
    go_wp2
    go_ret
    exact ⟨sd, dn⟩
mutual
def dr10_Spread.j0 : Nat → List Int → Bool → Option (Int × Bool)
 | 0, _, _ => none
 | k + 1, x0, x14 => if x14 = true then (some (0, false)) else (if 0 < (x0.length : Int) then (dr10_Spread.l0 k x0 (rd x0 0) (rd x0 0) 0) else (none))
def dr10_Spread.l0 : Nat → List Int → Int → Int → Int → Option (Int × Bool)
 | 0, _, _, _, _ => none
 | k + 1, x0, x4, x5, x6 => if x6 < (x0.length : Int) then (if 0 ≤ x6 then (dr10_Spread.l0 k x0 (mn x4 (rd x0 x6)) (mx x5 (rd x0 x6)) (wrap64 (x6 + 1))) else (none)) else (some (wrap64 (x5 - x4), true))
end
def dr10_Spread.f (k : Nat) (l0 : List Int) : Option (Int × Bool) := if (l0.length : Int) = 0 then (dr10_Spread.j0 k l0 true) else ((dr10_times.f k l0).bind fun t264 => (dr10_Spread.j0 k l0 (!t264)))
set_option maxHeartbeats 8000000 in
set_option maxRecDepth 100000 in
theorem dr10_Spread.calls (k : Nat) (A0 : Option Addr) (c0 : Nat) (l0 : List Int) (r1 : Int) (r2 : Bool) (w : World) (hr0 : Kd.C (Kd.int .i64) w A0 l0.length l0) (hc0 : l0.length ≤ c0) (h : dr10_Spread.f k l0 = some (r1, r2)) :
  Calls Tryz.prog 35 #[.slice A0 l0.length c0] w fun e w' => e = .returned (.tuple #[.int .i64 r1, .bool r2]) ∧ Below w.heap.size w w' := by
 have HR0 := am hr0
 have HC0 := am hc0
 clear hr0 hc0
 have HB := am (Below.refl w.heap.size w)
 have H : (if (l0.length : Int) = 0 then (dr10_Spread.j0 k l0 true) else ((dr10_times.f k l0).bind fun t264 => (dr10_Spread.j0 k l0 (!t264)))) = some (r1, r2) := h
 clear h
 have HC2 := am H
 clear H
 go_enter Tryz.func35, Tryz.ntmps35
 go_upto_region 1 with (fail)
 repeat (go_quiet (fail); go_upto_region 1 with (fail))
 go_cut [14] (fun v14 wc => ∃ (kq : Nat) (x14_1 : Bool), v14 = .bool x14_1 ∧ Aside0 (dr10_Spread.j0 kq l0 x14_1 = some (r1, r2)) ∧ Aside0 (kq ≤ k) ∧ Aside0 (Below w.heap.size w wc))
 case first =>
  have H := HC2.out
  clear HC2
  by_cases c3 : (l0.length : Int) = 0
  ·rw [if_pos c3] at H
   have c3b0 : ((l0.length : Int) == 0) = true := beq_iff_eq.mpr c3
   have c3b1 : ((l0.length : Int) != 0) = false := bne_eq_false_iff_eq.mpr c3
   clear c3
   (first | rw [c3b0] | (simp only [i64_w, i32_w]; rw [c3b0]) | skip)
   have H' := am H
   clear H
   go_wp2
   repeat (go_quiet (fail); try go_wp2)
   go_meet
   case rel => exact ⟨_, (true), bx, H', ⟨by first | omega | exact Nat.le_refl _⟩, ⟨bl0⟩⟩
  ·rw [if_neg c3] at H
   have c3b0 : ((l0.length : Int) == 0) = false := beq_eq_false_iff_ne.mpr c3
   have c3b1 : ((l0.length : Int) != 0) = true := bne_iff_ne.mpr c3
   have c3b2 : ¬ (l0 = []) := fun h_ => c3 (by rw [h_]; rfl)
   (first | rw [c3b0] | (simp only [i64_w, i32_w]; rw [c3b0]) | skip)
   replace H := bS H
   obtain ⟨t264, A40, H⟩ := H
   replace H : (dr10_Spread.j0 k l0 (!t264)) = some (r1, r2) := H
   have A4 := am A40
   clear A40
   have H' := am H
   clear H
   go_wp2_with (first | (go_at_call 59; (with_reducible refine (dr10_times.calls k _ _ l0 t264 _ ?side1 ?side2 A4.out).mono ?_); (case side1 => exact kc HR0); (case side2 => exact HC0.out); rintro e w' ⟨rfl, ⟨nd, rfl⟩⟩; (try first | exact ⟨rfl, _, World.drewN_drewN _ _ _⟩ | exact ⟨rfl, _, Eq.trans (World.drewN_drewN _ _ _) (congrArg (World.drewN _) (Nat.add_assoc _ _ _))⟩)))
   repeat (go_quiet (first | (go_at_call 59; (with_reducible refine (dr10_times.calls k _ _ l0 t264 _ ?side1 ?side2 A4.out).mono ?_); (case side1 => exact kc HR0); (case side2 => exact HC0.out); rintro e w' ⟨rfl, ⟨nd, rfl⟩⟩; (try first | exact ⟨rfl, _, World.drewN_drewN _ _ _⟩ | exact ⟨rfl, _, Eq.trans (World.drewN_drewN _ _ _) (congrArg (World.drewN _) (Nat.add_assoc _ _ _))⟩))); try go_wp2_with (first | (go_at_call 59; (with_reducible refine (dr10_times.calls k _ _ l0 t264 _ ?side1 ?side2 A4.out).mono ?_); (case side1 => exact kc HR0); (case side2 => exact HC0.out); rintro e w' ⟨rfl, ⟨nd, rfl⟩⟩; (try first | exact ⟨rfl, _, World.drewN_drewN _ _ _⟩ | exact ⟨rfl, _, Eq.trans (World.drewN_drewN _ _ _) (congrArg (World.drewN _) (Nat.add_assoc _ _ _))⟩))))
   go_meet
   case rel => exact ⟨_, (!t264), bx, H', ⟨by first | omega | exact Nat.le_refl _⟩, ⟨bl0⟩⟩
 case rest =>
  clear HC2
  try clear p2
  try clear c3
  try clear c3b0
  try clear c3b1
  try clear c3b2
  obtain ⟨kq, x14_1, rfl, HA, HJ1, HB⟩ := hcut
  cases kq with
  | zero => exact absurd HA.out (by simp [dr10_Spread.j0])
  | succ kj1 =>
   have H := HA.out
   clear HA
   simp only [dr10_Spread.j0] at H
   by_cases c5 : x14_1 = true
   ·subst c5
    have H1 : (some (0, false)) = some (r1, r2) := by rw [if_pos rfl] at H; exact H
    clear H
    have H := H1
    clear H1
    simp only [Option.some.injEq, Prod.mk.injEq] at H
    obtain ⟨rfl, rfl⟩ := H
    go_wp2
    repeat (go_quiet (fail); try go_wp2)
    go_ret2
    exact ⟨ew, bl0⟩
   ·replace c5 := Bool.eq_false_iff.mpr c5
    subst c5
    have H1 : (if 0 < (l0.length : Int) then (dr10_Spread.l0 kj1 l0 (rd l0 0) (rd l0 0) 0) else (none)) = some (r1, r2) := by rw [if_neg (show ¬ (false = true) by decide)] at H; exact H
    clear H
    have H := H1
    clear H1
    by_cases c6 : 0 < (l0.length : Int)
    ·rw [if_pos c6] at H
     have c6b0 : decide (0 < (l0.length : Int)) = true := dT c6
     have c6b1 : decide (0 < l0.length) = true := dT (by omega)
     clear c6
     have H' := am H
     clear H
     have p265 : 0 ≤ (0 : Int) := (by omega)
     have q265 : 0 < (l0.length : Int) := oT asm
     obtain ⟨ad265, e265, hx265_0⟩ := Kd.at_int HR0.out 0 p265 q265
     cases e265
     have qi265 : (0 < l0.length) = True := eq_true (by omega)
     (try rw [show ((0 : Int)).toNat = 0 from rfl] at hx265_0)
     (try rw [Addr.add_zero'] at hx265_0)
     replace hx265_0 := hxk HB hx265_0
     replace p265 := eq_true p265
     replace q265 := eq_true q265
     have p266 : 0 ≤ (0 : Int) := (by omega)
     have q266 : 0 < (l0.length : Int) := oT asm
     obtain ⟨ad266, e266, hx266_0⟩ := Kd.at_int HR0.out 0 p266 q266
     obtain rfl : ad265 = ad266 := (by injection e266)
     have qi266 : (0 < l0.length) = True := eq_true (by omega)
     (try rw [show ((0 : Int)).toNat = 0 from rfl] at hx266_0)
     (try rw [Addr.add_zero'] at hx266_0)
     replace hx266_0 := hxk HB hx266_0
     replace p266 := eq_true p266
     replace q266 := eq_true q266
     go_wp2
     repeat (go_quiet (fail); try go_wp2)
     go_loopg [4, 5, 6] kj1 (fun kq v4 v5 v6 w' => ∃ (x4_2 : Int) (x5_2 : Int) (x6_2 : Int), v4 = .int .i64 x4_2 ∧ v5 = .int .i64 x5_2 ∧ v6 = .int .i64 x6_2 ∧ Aside0 (dr10_Spread.l0 kq l0 x4_2 x5_2 x6_2 = some (r1, r2)) ∧ Aside0 (kq ≤ kj1) ∧ Aside0 (Below w.heap.size w w'))
     case atStart => exact ⟨(rd l0 0), (rd l0 0), (0), bx, bx, bx, H', ⟨Nat.le_refl _⟩, ⟨bl0⟩⟩
     case round =>
      clear H'
      try clear p2
      try clear q2
      try clear hx2
      try clear qi2
      try clear c3
      try clear c3b0
      try clear c3b1
      try clear c3b2
      try clear c5
      try clear c6
      try clear c6b0
      try clear c6b1
      try clear hx265_0
      try clear hx266_0
      try clear p2
      try clear p265
      try clear p266
      try clear q265
      try clear q266
      obtain ⟨x4_2, x5_2, x6_2, rfl, rfl, rfl, HA, HK2, HB⟩ := hrel
      cases gk with
      | zero => exact absurd HA.out (by simp [dr10_Spread.l0])
      | succ k2 =>
       have H := HA.out
       clear HA
       simp only [dr10_Spread.l0] at H
       by_cases c7 : x6_2 < (l0.length : Int)
       ·rw [if_pos c7] at H
        have c7b0 : decide (x6_2 < (l0.length : Int)) = true := dT c7
        clear c7
        by_cases c8 : 0 ≤ x6_2
        ·rw [if_pos c8] at H
         have c8b0 : decide (0 ≤ x6_2) = true := dT c8
         clear c8
         obtain ⟨ji9, hji9⟩ : ∃ j_ : Int, (mn x4_2 (rd l0 x6_2)) = j_ := ⟨_, rfl⟩
         replace H : (dr10_Spread.l0 k2 l0 ji9 (mx x5_2 (rd l0 x6_2)) (wrap64 (x6_2 + 1))) = some (r1, r2) := by first | (rw [hji9] at H; exact H) | (simp only [hji9] at H ⊢; exact H)
         have hji9_ : (if (rd l0 x6_2) < x4_2 then (rd l0 x6_2) else x4_2) = ji9 := hji9
         obtain ⟨ji10, hji10⟩ : ∃ j_ : Int, (mx x5_2 (rd l0 x6_2)) = j_ := ⟨_, rfl⟩
         replace H : (dr10_Spread.l0 k2 l0 ji9 ji10 (wrap64 (x6_2 + 1))) = some (r1, r2) := by first | (rw [hji10] at H; exact H) | (simp only [hji10] at H ⊢; exact H)
         have hji10_ : (if x5_2 < (rd l0 x6_2) then (rd l0 x6_2) else x5_2) = ji10 := hji10
         have H' := am H
         clear H
         have p267 : 0 ≤ (x6_2 : Int) := oT asm
         have q267 : x6_2 < (l0.length : Int) := oT asm
         obtain ⟨ad267, e267, hx267_0⟩ := Kd.at_int HR0.out x6_2 p267 q267
         obtain rfl : ad265 = ad267 := (by injection e267)
         replace hx267_0 := hxk HB hx267_0
         replace p267 := eq_true p267
         replace q267 := eq_true q267
         have p268 : 0 ≤ (x6_2 : Int) := oT asm
         have q268 : x6_2 < (l0.length : Int) := oT asm
         obtain ⟨ad268, e268, hx268_0⟩ := Kd.at_int HR0.out x6_2 p268 q268
         obtain rfl : ad265 = ad268 := (by injection e268)
         replace hx268_0 := hxk HB hx268_0
         replace p268 := eq_true p268
         replace q268 := eq_true q268
         go_wp2
         repeat (go_quiet (fail); try go_wp2)
         go_roundg k2
         case measure => have := HJ1.out; have := HK2.out; omega
         case rel => exact ⟨(ji9), (ji10), (wrap64 (x6_2 + 1)), (by first | rfl | (simp; done) | (simp only [← hji9] <;> (first | rfl | simp)) | (simp [*]; done)), (by first | rfl | (simp; done) | (simp only [← hji10] <;> (first | rfl | simp)) | (simp [*]; done)), bx, H', ⟨by have := HJ1.out; have := HK2.out; omega⟩, ⟨bl0⟩⟩
        ·rw [if_neg c8] at H
         exact absurd H (by simp)
       ·rw [if_neg c7] at H
        have c7b0 : decide (x6_2 < (l0.length : Int)) = false := dF c7
        clear c7
        simp only [Option.some.injEq, Prod.mk.injEq] at H
        obtain ⟨rfl, rfl⟩ := H
        go_wp2
        repeat (go_quiet (fail); try go_wp2)
        go_ret2
        exact ⟨ew, bl0⟩
    ·rw [if_neg c6] at H
     exact absurd H (by simp)
def dr1_SameInts.l0 : Nat → List Int → List Int → Int → Option (Bool)
 | 0, _, _, _ => none
 | k + 1, x0, x1, x5 => if x5 < (x0.length : Int) then (if 0 ≤ x5 then (if x5 < (x1.length : Int) then (if (rd x0 x5) = (rd x1 x5) then (dr1_SameInts.l0 k x0 x1 (wrap64 (x5 + 1))) else (some false)) else (none)) else (none)) else (some true)
def dr1_SameInts.f (k : Nat) (l0 : List Int) (l1 : List Int) : Option (Bool) := if (l0.length : Int) = (l1.length : Int) then (dr1_SameInts.l0 k l0 l1 0) else (some false)
set_option maxHeartbeats 8000000 in
set_option maxRecDepth 100000 in
theorem dr1_SameInts.calls (k : Nat) (A0 : Option Addr) (c0 : Nat) (l0 : List Int) (A1 : Option Addr) (c1 : Nat) (l1 : List Int) (r : Bool) (w : World) (hr0 : Kd.C (Kd.int .i64) w A0 l0.length l0) (hc0 : l0.length ≤ c0) (hr1 : Kd.C (Kd.int .i64) w A1 l1.length l1) (hc1 : l1.length ≤ c1) (h : dr1_SameInts.f k l0 l1 = some r) :
  Calls Tryz.prog 50 #[.slice A0 l0.length c0, .slice A1 l1.length c1] w fun e w' => e = .returned (.bool r) ∧ Drawn0 w w' := by
 have HR0 := am hr0
 have HC0 := am hc0
 clear hr0 hc0
 have HR1 := am hr1
 have HC1 := am hc1
 clear hr1 hc1
 have H : (if (l0.length : Int) = (l1.length : Int) then (dr1_SameInts.l0 k l0 l1 0) else (some false)) = some r := h
 clear h
 by_cases c3 : (l0.length : Int) = (l1.length : Int)
 ·rw [if_pos c3] at H
  have c3b0 : ((l0.length : Int) == (l1.length : Int)) = true := beq_iff_eq.mpr c3
  have c3b1 : ((l0.length : Int) != (l1.length : Int)) = false := bne_eq_false_iff_eq.mpr c3
  have c3b2 : (l0.length == l1.length) = true := by first | simpa using c3 | (simp at c3 ⊢; omega)
  clear c3
  have H' := am H
  clear H
  go_enter Tryz.func50, Tryz.ntmps50
  go_wp2
  repeat (go_quiet (fail); try go_wp2)
  go_loopg [5] k (fun kq v5 w' => ∃ (x5_1 : Int), v5 = .int .i64 x5_1 ∧ Aside0 (dr1_SameInts.l0 kq l0 l1 x5_1 = some r) ∧ Aside0 (kq ≤ k) ∧ Drawn0 w w')
  case atStart => exact ⟨(0), bx, H', ⟨Nat.le_refl _⟩, dn⟩
  case round =>
   clear H'
   try clear c1
   try clear p2
   try clear c3
   try clear c3b0
   try clear c3b1
   try clear c3b2
   obtain ⟨x5_1, rfl, HA, HK1, ⟨m1, rfl⟩⟩ := hrel
   cases gk with
   | zero => exact absurd HA.out (by simp [dr1_SameInts.l0])
   | succ k1 =>
    have H := HA.out
    clear HA
    simp only [dr1_SameInts.l0] at H
    by_cases c4 : x5_1 < (l0.length : Int)
    ·rw [if_pos c4] at H
     have c4b0 : decide (x5_1 < (l0.length : Int)) = true := dT c4
     clear c4
     by_cases c5 : 0 ≤ x5_1
     ·rw [if_pos c5] at H
      have c5b0 : decide (0 ≤ x5_1) = true := dT c5
      clear c5
      by_cases c6 : x5_1 < (l1.length : Int)
      ·rw [if_pos c6] at H
       have c6b0 : decide (x5_1 < (l1.length : Int)) = true := dT c6
       clear c6
       by_cases c7 : (rd l0 x5_1) = (rd l1 x5_1)
       ·rw [if_pos c7] at H
        have c7b0 : ((rd l0 x5_1) == (rd l1 x5_1)) = true := beq_iff_eq.mpr c7
        have c7b1 : ((rd l0 x5_1) != (rd l1 x5_1)) = false := bne_eq_false_iff_eq.mpr c7
        clear c7
        have H' := am H
        clear H
        have p256 : 0 ≤ (x5_1 : Int) := oT asm
        have q256 : x5_1 < (l0.length : Int) := oT asm
        obtain ⟨ad256, e256, hx256_0⟩ := Kd.at_int HR0.out x5_1 p256 q256
        cases e256
        replace p256 := eq_true p256
        replace q256 := eq_true q256
        have p257 : 0 ≤ (x5_1 : Int) := oT asm
        have q257 : x5_1 < (l1.length : Int) := oT asm
        obtain ⟨ad257, e257, hx257_0⟩ := Kd.at_int HR1.out x5_1 p257 q257
        cases e257
        replace p257 := eq_true p257
        replace q257 := eq_true q257
        go_wp2
        repeat (go_quiet (fail); try go_wp2)
        go_roundg k1
        case measure => have := HK1.out; omega
        case rel => exact ⟨(wrap64 (x5_1 + 1)), bx, H', ⟨by have := HK1.out; omega⟩, dn⟩
       ·rw [if_neg c7] at H
        have c7b0 : ((rd l0 x5_1) == (rd l1 x5_1)) = false := beq_eq_false_iff_ne.mpr c7
        have c7b1 : ((rd l0 x5_1) != (rd l1 x5_1)) = true := bne_iff_ne.mpr c7
        obtain rfl := Option.some.inj H
        have p256 : 0 ≤ (x5_1 : Int) := oT asm
        have q256 : x5_1 < (l0.length : Int) := oT asm
        obtain ⟨ad256, e256, hx256_0⟩ := Kd.at_int HR0.out x5_1 p256 q256
        cases e256
        replace p256 := eq_true p256
        replace q256 := eq_true q256
        have p257 : 0 ≤ (x5_1 : Int) := oT asm
        have q257 : x5_1 < (l1.length : Int) := oT asm
        obtain ⟨ad257, e257, hx257_0⟩ := Kd.at_int HR1.out x5_1 p257 q257
        cases e257
        replace p257 := eq_true p257
        replace q257 := eq_true q257
        go_wp2
        repeat (go_quiet (fail); try go_wp2)
        go_ret
        exact ⟨sd, dn⟩
      ·rw [if_neg c6] at H
       exact absurd H (by simp)
     ·rw [if_neg c5] at H
      exact absurd H (by simp)
    ·rw [if_neg c4] at H
     have c4b0 : decide (x5_1 < (l0.length : Int)) = false := dF c4
     clear c4
     obtain rfl := Option.some.inj H
     go_wp2
     repeat (go_quiet (fail); try go_wp2)
     go_ret
     exact ⟨sd, dn⟩
 ·rw [if_neg c3] at H
  have c3b0 : ((l0.length : Int) == (l1.length : Int)) = false := beq_eq_false_iff_ne.mpr c3
  have c3b1 : ((l0.length : Int) != (l1.length : Int)) = true := bne_iff_ne.mpr c3
  have c3b2 : (l0.length == l1.length) = false := by first | simpa using c3 | (simp at c3 ⊢; omega)
  obtain rfl := Option.some.inj H
  go_enter Tryz.func50, Tryz.ntmps50
  go_wp2
  repeat (go_quiet (fail); try go_wp2)
  go_ret
  exact ⟨sd, dn⟩
end Go.Proofs.YtbefbhghmommhaaGreatDoor.MWo


set_option linter.unusedVariables false
set_option linter.unusedSimpArgs false
set_option maxRecDepth 100000
namespace Go.Proofs.YtbefbhghmommhaaGreatDoor.MWo
open Go.RowKit Go.Proofs.YtbefbhghmommhaaGreatDoorW.PrintWords Go.Proofs.YtbefbhghmommhaaGreatDoorW.PrintLast Go.Proofs.YtbefbhghmommhaaGreatDoorW.PrintMore Go.Proofs.YtbefbhghmommhaaGreatDoor.Evl
theorem rsynced_loop {l : List S55} (hl : l.length ≤ 1000000) (a1 : Bool) (a2 : Int) (l3 : List Int) : ∀ (d i : Nat) (o : List S55), i + d = l.length → o.length ≤ i → Evl (fun k => dr26_synced.l0 k o (i : Int) l a1 a2 l3) (o ++ syn (l.drop i))
 | 0, i, o, h, _ => by
  refine Evl.succ ?_
  simp only [dr26_synced.l0]
  simp only [if_neg (show ¬ ((i : Int) < (l.length : Int)) by omega), List.drop_eq_nil_iff.2 (show l.length ≤ i by omega)]
  exact Evl.now fun _ => by simp [syn]
 | d + 1, i, o, h, ho => by
  have hi : i < l.length := by omega
  refine Evl.succ ?_
  simp only [dr26_synced.l0]
  simp only [if_pos (show (i : Int) < (l.length : Int) by omega), if_pos (show (0 : Int) ≤ (i : Int) by omega), w64n (show i < 2000000 by omega), if_pos (show o.length < 1759218604441 by omega)]
  rw [List.drop_eq_getElem_cons hi]
  have hr : rd_T55 l (i : Int) = l[i] := by rw [rd_n (by omega) (by omega)]; simp
  simp only [hr]
  by_cases e : (l[i]).f0 = 2
  ·simp only [if_pos e]
   have ih := rsynced_loop hl a1 a2 l3 d (i + 1) (o ++ [l[i]]) (by omega) (by simp; omega)
   have e2 : syn (l[i] :: l.drop (i + 1)) = l[i] :: syn (l.drop (i + 1)) := by unfold syn; rw [List.filter_cons, if_pos (by simp [e])]
   rw [e2]
   rw [List.append_assoc] at ih
   exact ih
  ·simp only [if_neg e]
   have ih := rsynced_loop hl a1 a2 l3 d (i + 1) o (by omega) (by omega)
   have e2 : syn (l[i] :: l.drop (i + 1)) = syn (l.drop (i + 1)) := by unfold syn; rw [List.filter_cons, if_neg (by simp [e])]
   rw [e2]
   exact ih
theorem rsynced_evl {l : List S55} (hl : l.length ≤ 1000000) (a1 : Bool) (a2 : Int) (l3 : List Int) : Evl (fun k => dr26_synced.f k l a1 a2 l3) (syn l) := rsynced_loop hl a1 a2 l3 l.length 0 [] (by omega) (by simp)
theorem rstarts_loop {l : List S55} (hl : l.length ≤ 1000000) : ∀ (d i : Nat) (o : List Int), i + d = l.length → o.length ≤ i → Evl (fun k => dr26_starts.l0 k l o (i : Int)) (o ++ (l.drop i).map (·.f3))
 | 0, i, o, h, _ => by
  refine Evl.succ ?_
  simp only [dr26_starts.l0]
  simp only [if_neg (show ¬ ((i : Int) < (l.length : Int)) by omega), List.drop_eq_nil_iff.2 (show l.length ≤ i by omega)]
  exact Evl.now fun _ => by simp
 | d + 1, i, o, h, ho => by
  have hi : i < l.length := by omega
  refine Evl.succ ?_
  simp only [dr26_starts.l0]
  simp only [if_pos (show (i : Int) < (l.length : Int) by omega), if_pos (show (0 : Int) ≤ (i : Int) by omega), w64n (show i < 2000000 by omega), if_pos (show o.length < 17592186044416 by omega)]
  rw [List.drop_eq_getElem_cons hi]
  have hr : rd_T55 l (i : Int) = l[i] := by rw [rd_n (by omega) (by omega)]; simp
  simp only [hr]
  have ih := rstarts_loop hl d (i + 1) (o ++ [(l[i]).f3]) (by omega) (by simp; omega)
  rw [List.append_assoc] at ih
  exact ih
theorem rstarts_evl {l : List S55} (hl : l.length ≤ 1000000) : Evl (fun k => dr26_starts.f k l) (l.map (·.f3)) := by
 have h := rstarts_loop hl l.length 0 [] (by omega) (by simp)
 exact h
theorem rd_i {l : List Int} {i : Nat} (h : i < l.length) : rd l (i : Int) = l[i] := by simp [rd, h]
theorem rtimes_loop {l : List Int} (hl : l.length ≤ 1000000) : ∀ (d i : Nat), i + d = l.length → Evl (fun k => dr10_times.l0 k l (i : Int)) ((l.drop i).all timeB)
 | 0, i, h => by
  refine Evl.succ ?_
  simp only [dr10_times.l0]
  simp only [if_neg (show ¬ ((i : Int) < (l.length : Int)) by omega), List.drop_eq_nil_iff.2 (show l.length ≤ i by omega)]
  exact Evl.now fun _ => rfl
 | d + 1, i, h => by
  have hi : i < l.length := by omega
  refine Evl.succ ?_
  simp only [dr10_times.l0]
  simp only [if_pos (show (i : Int) < (l.length : Int) by omega), if_pos (show (0 : Int) ≤ (i : Int) by omega), w64n (show i < 2000000 by omega), rd_i hi]
  rw [List.drop_eq_getElem_cons hi]
  have hT : dr1_Time.f l[i] = some (timeB l[i]) := by
   unfold dr1_Time.f timeB
   by_cases h : l[i] ≥ -1099511627776
   ·rw [if_pos h, show decide (-1099511627776 ≤ l[i]) = true from dT h, Bool.true_and]
   ·rw [if_neg h, show decide (-1099511627776 ≤ l[i]) = false from dF h, Bool.false_and]
  simp only [hT, Option.bind_some, List.all_cons]
  cases hb : timeB l[i] with
  | false =>
   exact Evl.now fun _ => rfl
  | true =>
   have ih := rtimes_loop hl d (i + 1) (by omega)
   simp only [if_true, Bool.true_and]
   exact ih
theorem rtimes_evl {l : List Int} (hl : l.length ≤ 1000000) : Evl (fun k => dr10_times.f k l) (l.all timeB) := rtimes_loop hl l.length 0 (by omega)
theorem mx_max (a b : Int) : mx a b = max a b := by unfold mx; omega
theorem mn_min (a b : Int) : mn a b = min a b := by unfold mn; omega
theorem rspread_loop {l : List Int} (hl : l.length ≤ 1000000) : ∀ (d i : Nat) (a b : Int), i + d = l.length → Evl (fun k => dr10_Spread.l0 k l a b (i : Int)) (wrap64 ((l.drop i).foldl max b - (l.drop i).foldl min a), true)
 | 0, i, a, b, h => by
  refine Evl.succ ?_
  simp only [dr10_Spread.l0]
  simp only [if_neg (show ¬ ((i : Int) < (l.length : Int)) by omega), List.drop_eq_nil_iff.2 (show l.length ≤ i by omega)]
  exact Evl.now fun _ => rfl
 | d + 1, i, a, b, h => by
  have hi : i < l.length := by omega
  refine Evl.succ ?_
  simp only [dr10_Spread.l0]
  simp only [if_pos (show (i : Int) < (l.length : Int) by omega), if_pos (show (0 : Int) ≤ (i : Int) by omega), w64n (show i < 2000000 by omega), rd_i hi, mx_max, mn_min]
  rw [List.drop_eq_getElem_cons hi]
  have ih := rspread_loop hl d (i + 1) (min a l[i]) (max b l[i]) (by omega)
  exact ih
theorem any_all {α : Type} (p : α → Bool) (l : List α) : (l.any fun x => !p x) = !(l.all p) := by
 induction l with
 | nil => rfl
 | cons x t ih => simp [ih, Bool.not_and]
theorem rspread_evl {l : List Int} (hl : l.length ≤ 1000000) : Evl (fun k => dr10_Spread.f k l) (sprd l) := by
 unfold dr10_Spread.f sprd
 by_cases h0 : l = []
 ·subst h0
  simp only [List.length_nil, Int.ofNat_zero, if_true, true_or]
  exact Evl.succ (Evl.now fun _ => by simp [dr10_Spread.j0])
 ·have hn : 0 < l.length := List.length_pos_iff.2 h0
  simp only [if_neg (show ¬ ((l.length : Int) = 0) by omega)]
  refine Evl.bind (rtimes_evl hl) ?_
  rw [any_all]
  cases hb : l.all timeB with
  | false =>
   rw [if_pos (show l = [] ∨ (!false) = true from Or.inr rfl)]
   exact Evl.succ (Evl.now fun _ => by simp [dr10_Spread.j0])
  | true =>
   rw [if_neg (by rintro (h | h); exact h0 h; exact absurd h (by decide))]
   refine Evl.succ ?_
   simp only [dr10_Spread.j0]
   simp only [show ((!true) = true) = False by simp, if_false, if_pos (show (0 : Int) < (l.length : Int) by omega)]
   have := rspread_loop hl l.length 0 (rd l 0) (rd l 0) (by omega)
   have e : rd l 0 = l.headD 0 := by cases l <;> simp [rd]
   rw [e] at this ⊢
   exact this
theorem rsame_loop {l m : List Int} (hl : l.length ≤ 1000000) (hm : l.length = m.length) : ∀ (d i : Nat), i + d = l.length → Evl (fun k => dr1_SameInts.l0 k l m (i : Int)) (decide (l.drop i = m.drop i))
 | 0, i, h => by
  refine Evl.succ ?_
  simp only [dr1_SameInts.l0]
  simp only [if_neg (show ¬ ((i : Int) < (l.length : Int)) by omega), List.drop_eq_nil_iff.2 (show l.length ≤ i by omega), List.drop_eq_nil_iff.2 (show m.length ≤ i by omega)]
  exact Evl.now fun _ => rfl
 | d + 1, i, h => by
  have hi : i < l.length := by omega
  have hj : i < m.length := by omega
  refine Evl.succ ?_
  simp only [dr1_SameInts.l0]
  simp only [if_pos (show (i : Int) < (l.length : Int) by omega), if_pos (show (i : Int) < (m.length : Int) by omega), if_pos (show (0 : Int) ≤ (i : Int) by omega), w64n (show i < 2000000 by omega), rd_i hi, rd_i hj]
  rw [List.drop_eq_getElem_cons hi, List.drop_eq_getElem_cons hj]
  have ih := rsame_loop hl hm d (i + 1) (by omega)
  by_cases e : l[i] = m[i]
  ·simp only [if_pos e]
   have e2 : decide (l[i] :: l.drop (i + 1) = m[i] :: m.drop (i + 1)) = decide (l.drop (i + 1) = m.drop (i + 1)) := by
    apply decide_eq_decide.2
    rw [List.cons.injEq]
    exact ⟨fun h => h.2, fun h => ⟨e, h⟩⟩
   rw [e2]
   exact ih
  ·simp only [if_neg e]
   have e2 : decide (l[i] :: l.drop (i + 1) = m[i] :: m.drop (i + 1)) = false := dF (fun h => e (List.cons.inj h).1)
   rw [e2]
   exact Evl.now fun _ => rfl
theorem rsame_evl {l m : List Int} (hl : l.length ≤ 1000000) : Evl (fun k => dr1_SameInts.f k l m) (decide (l = m)) := by
 unfold dr1_SameInts.f
 by_cases h : l.length = m.length
 ·simp only [if_pos (show ((l.length : Int) = (m.length : Int)) by omega)]
  exact rsame_loop hl h l.length 0 (by omega)
 ·simp only [if_neg (show ¬ ((l.length : Int) = (m.length : Int)) by omega)]
  rw [show decide (l = m) = false from dF (fun e => h (by rw [e]))]
  exact Evl.now fun _ => rfl
theorem unlike_self (y : S55) : unlike y y = false := by simp [unlike]
set_option linter.unusedVariables false
set_option linter.unusedSimpArgs false
set_option maxRecDepth 100000
theorem rsynced_walk (A0 : Option Addr) (c0 : Nat) (l : List S55) (a1 : Bool) (a2 : Int) (A3 : Option Addr) (c3 : Nat) (l3 : List Int) (w : World) (hr0 : Kd.C k55 w A0 l.length l) (hc0 : l.length ≤ c0) (hr3 : Kd.C (Kd.int .i64) w A3 l3.length l3) (hc3 : l3.length ≤ c3) (hl : l.length ≤ 1000) :
  Calls Tryz.prog 28 #[.agg #[.slice A0 l.length c0, .bool a1, .int .i64 a2, .slice A3 l3.length c3]] w fun e w' => ∃ A c, e = .returned (.slice A (syn l).length c) ∧ (syn l).length ≤ c ∧ Kd.C k55 w' A (syn l).length (syn l) ∧ Below w.heap.size w w' := by
 obtain ⟨k, hk⟩ := (rsynced_evl (l := l) (by omega) a1 a2 l3).some_
 refine (dr26_synced.calls k (fun k_ => k_ < w.heap.size) A0 c0 l a1 a2 A3 c3 l3 _ w (Kd.V_mk hc0 (Kd.C_F k55_heap hr0)) hr3 hc3 hk).mono ?_
 rintro e w' ⟨v, rfl, ho, hb⟩
 obtain ⟨A, c, rfl, hc, hC⟩ := Kd.N_reads ho
 exact ⟨A, c, rfl, hc, hC, hb⟩
set_option maxHeartbeats 4000000 in
theorem ragree_walk (A0 : Option Addr) (c0 : Nat) (l : List S55) (a1 : Bool) (a2 : Int) (A3 : Option Addr) (c3 : Nat) (l3 : List Int) (w : World) (hr0 : Kd.C k55 w A0 l.length l) (hc0 : l.length ≤ c0) (hr3 : Kd.C (Kd.int .i64) w A3 l3.length l3) (hc3 : l3.length ≤ c3) (hl : l.length ≤ 1000) (hx : ∀ x ∈ l, x.f5.length ≤ 1000000) :
  Calls Tryz.prog 21 #[.agg #[.slice A0 l.length c0, .bool a1, .int .i64 a2, .slice A3 l3.length c3]] w fun e w' => e = .returned (.bool (agreeB l)) ∧ Below w.heap.size w w' := by
 have HX := am (show ∀ x ∈ syn l, x.f5.length ≤ 1000000 from fun x h => hx x (List.mem_filter.1 h).1)
 have hs := rsynced_walk A0 c0 l a1 a2 A3 c3 l3
 have kb := below_alloc (Below.refl w.heap.size w) (.cells #[.slice A0 l.length c0, .bool a1, .int .i64 a2, .slice A3 l3.length c3] 37)
 have HB := am kb
 have hs1 := hs _ (Kd.C_below hr0 kb) hc0 (Kd.C_below hr3 kb) hc3 hl
 have HLS := am (Nat.le_trans (syn_len l) hl)
 clear hs kb hr0 hc0 hr3 hc3 hl hx
 have HAG := am (show agreeB l = match syn l with | [] => true | y :: t => !((y :: t).any (unlike y)) from rfl)
 generalize agreeB l = r at HAG ⊢
 generalize syn l = s at hs1 HAG HX HLS
 go_enter Tryz.func21, Tryz.ntmps21
 go_wp2_with fail
 refine hs1.mono ?_
 rintro e w1 ⟨A, c, rfl, hc, hC⟩
 have HB1 := am (below_step HB.out hC.2)
 have HC := am hC.1
 clear hC hs1 hc HB
 go_wp2_with fail
 cases s with
 | nil =>
  refine wp_loop_rounds 1 ?_
  rw [rounds_succ]
  go_wp2_with fail
  go_ret
  refine ⟨?_, HB1.out⟩
  rw [HAG.out]
  rfl
 | cons y t =>
  obtain ⟨s, hs⟩ : ∃ s, y :: t = s := ⟨_, rfl⟩
  have HR : Aside0 (r = !(s.any (unlike y))) := ⟨by rw [HAG.out, ← hs]⟩
  have HY : Aside0 (∃ h : 0 < s.length, s[0] = y) := ⟨by subst hs; exact ⟨by simp, rfl⟩⟩
  clear HAG
  rw [hs] at HX HC HLS ⊢
  clear hs
  go_loopg [4] (s.length + 1) (fun kq v4 w' => ∃ i : Int, v4 = .int .i64 i ∧ Aside0 (kq + i = s.length + 2 ∧ 1 ≤ i) ∧ Aside0 (Below w.heap.size w w' ∧ Below w1.heap.size w1 w') ∧ Aside0 (∀ (j : Nat) (h : j < s.length), (j : Int) < i → unlike y s[j] = false))
  case atStart => exact ⟨1, rfl, ⟨by omega⟩, ⟨HB1.out, Below.refl _ _⟩, ⟨fun j h hj => by obtain rfl : j = 0 := (by omega); rw [HY.out.2]; exact unlike_self y⟩⟩
  case round =>
   obtain ⟨i, rfl, HK, HBB, HN⟩ := hrel
   by_cases hi : i < (s.length : Int)
   ·have h0 := HK.out.2
    obtain ⟨ad, A5, c5, e, _, _, _, _, x4, x5, x6, _, hc5, hC5⟩ := at_T55 (Kd.C_below HC.out HBB.out.2) i (by omega) hi
    obtain ⟨ad', B5, d5, e', _, _, _, _, y4, y5, y6, _, hd5, hD5⟩ := at_T55 (Kd.C_below HC.out HBB.out.2) 0 (by omega) (by omega)
    cases e
    cases e'
    rw [rd_n (by omega) hi] at x4 x5 x6 hc5 hC5
    rw [rd_n (by omega) (by omega)] at y4 y5 y6 hd5 hD5
    have hy0 : s[(0 : Int).toNat]'(by have := HY.out.1; exact this) = y := HY.out.2
    rw [hy0] at y4 y5 y6 hd5 hD5
    have hxm := HX.out _ (List.getElem_mem (show i.toNat < s.length by omega))
    have hxn := HN.out
    obtain ⟨x, hxx⟩ : ∃ x, s[i.toNat]'(by omega) = x := ⟨_, rfl⟩
    rw [hxx] at x4 x5 x6 hc5 hC5 hxm
    have HXX := am hxx
    clear hxx hy0 hxn
    have y4' : wr.cell? ⟨ad.block, ad.off + 4, none⟩ = some (.int .i64 y.f4) := by simpa [Addr.add] using y4
    have y6' : wr.cell? ⟨ad.block, ad.off + 6, none⟩ = some (.int .i64 y.f6) := by simpa [Addr.add] using y6
    have y5' : wr.cell? ⟨ad.block, ad.off + 5, none⟩ = some (.slice B5 y.f5.length d5) := by simpa [Addr.add] using y5
    clear y4 y5 y6
    have HC5 := am hC5
    have HD5 := am hD5
    have HH5 := am (And.intro hc5 (And.intro hd5 hxm))
    clear hC5 hD5 hc5 hd5 hxm
    have hlt : decide (i < (s.length : Int)) = true := dT hi
    have p0 := eq_true (show (0 : Int) ≤ i by omega)
    have p1 := eq_true hi
    have p2 := eq_true (show (0 : Int) < (s.length : Int) by omega)
    have p3 := eq_true (show 0 < s.length by omega)
    have hw1 : wrap64 (i + 1) = i + 1 := by have := HLS.out; unfold wrap64; omega
    have HU : Aside0 (unlike y x = if x.f4 = y.f4 then (if x.f6 = y.f6 then !decide (x.f5 = y.f5) else true) else true) := ⟨rfl⟩
    have HBAD : Aside0 (unlike y x = true → r = false) := ⟨fun h => by
     have : s.any (unlike y) = true := List.any_eq_true.2 ⟨_, List.getElem_mem (show i.toNat < s.length by omega), by rw [HXX.out]; exact h⟩
     rw [HR.out, this]; rfl⟩
    cases gk with
    | zero => exact absurd HK.out (by omega)
    | succ k1 =>
    by_cases h4 : x.f4 = y.f4
    ·have b4 : (x.f4 == y.f4) = true := by simp [h4]
     have n4 : (x.f4 != y.f4) = false := by simp [h4]
     by_cases h6 : x.f6 = y.f6
     ·have b6 : (x.f6 == y.f6) = true := by simp [h6]
      have n6 : (x.f6 != y.f6) = false := by simp [h6]
      obtain ⟨ks, hks⟩ := (rsame_evl (l := x.f5) (m := y.f5) HH5.out.2.2).some_
      have HU2 : Aside0 (unlike y x = !decide (x.f5 = y.f5)) := ⟨by rw [HU.out, if_pos h4, if_pos h6]⟩
      generalize decide (x.f5 = y.f5) = q at hks HU2
      have HKS := am hks
      clear h4 h6 hks
      go_upto_region 5 with fail
      have dd0 : wr.drew.cell? ⟨(ad.add (i.toNat * 8)).block, (ad.add (i.toNat * 8)).off + 4, none⟩ = some (.int .i64 x.f4) := x4
      have dd1 : wr.drew.cell? ⟨(ad.add (i.toNat * 8)).block, (ad.add (i.toNat * 8)).off + 6, none⟩ = some (.int .i64 x.f6) := x6
      have dd2 : wr.drew.cell? ⟨(ad.add (i.toNat * 8)).block, (ad.add (i.toNat * 8)).off + 5, none⟩ = some (.slice A5 x.f5.length c5) := x5
      have dd3 : wr.drew.cell? ⟨ad.block, ad.off + 4, none⟩ = some (.int .i64 y.f4) := y4'
      have dd4 : wr.drew.cell? ⟨ad.block, ad.off + 6, none⟩ = some (.int .i64 y.f6) := y6'
      have dd5 : wr.drew.cell? ⟨ad.block, ad.off + 5, none⟩ = some (.slice B5 y.f5.length d5) := y5'
      refine start_ (n := 35) (S := fun w' => w'.cell? ⟨(ad.add (i.toNat * 8)).block, (ad.add (i.toNat * 8)).off + 4, none⟩ = some (.int .i64 x.f4) ∧ w'.cell? ⟨(ad.add (i.toNat * 8)).block, (ad.add (i.toNat * 8)).off + 6, none⟩ = some (.int .i64 x.f6) ∧ w'.cell? ⟨(ad.add (i.toNat * 8)).block, (ad.add (i.toNat * 8)).off + 5, none⟩ = some (.slice A5 x.f5.length c5) ∧ w'.cell? ⟨ad.block, ad.off + 4, none⟩ = some (.int .i64 y.f4) ∧ w'.cell? ⟨ad.block, ad.off + 6, none⟩ = some (.int .i64 y.f6) ∧ w'.cell? ⟨ad.block, ad.off + 5, none⟩ = some (.slice B5 y.f5.length d5)) (ds := []) #[false, false, false, false, false, false, false, false, false, false, false, false, false, false, false, false, false, false, false, false, false, false, false, false, false, false, false, false, false, false, false, false, false, false, false] (by kernel_rfl) rfl rfl ⟨dd0, dd1, dd2, dd3, dd4, dd5⟩ (fun hHeld => ?_)
      refine pu 0 13 ?_
      refine pu 1 14 ?_
      refine pu 2 15 ?_
      refine pu 3 16 ?_
      refine pu 5 18 ?_
      refine pu 6 19 ?_
      refine pu 7 20 ?_
      refine tk6 4 17 ?_
      refine tk6 8 21 ?_
      refine pu 9 22 ?_
      refine pu 10 23 ?_
      refine pu 11 24 ?_
      refine pu 12 25 ?_
      refine pu 13 26 ?_
      refine pu 14 27 ?_
      refine pu 16 29 ?_
      refine pu 17 30 ?_
      refine pu 18 31 ?_
      refine tk6 15 28 ?_
      refine tk6 19 32 ?_
      refine pu 20 33 ?_
      refine pu 21 34 ?_
      refine pu 22 35 ?_
      refine pu 23 36 ?_
      refine pu 24 37 ?_
      refine pu 25 38 ?_
      refine pu 26 39 ?_
      refine pu 28 41 ?_
      refine pu 29 42 ?_
      refine pu 30 43 ?_
      refine tk6 27 40 ?_
      refine tk6 31 44 ?_
      refine on 32 45 (fun K hK => ?_)
      refine goes_ Tryz.func50 (by kernel_rfl) rfl #[.slice A5 x.f5.length c5, .slice B5 y.f5.length d5] (by rfl) rfl rfl lm ?_
      with_reducible refine (dr1_SameInts.calls ks A5 c5 x.f5 B5 d5 y.f5 q _ (Kd.C_below HC5.out (Below.refl _ _).drew) HH5.out.1 (Kd.C_below HD5.out (Below.refl _ _).drew) HH5.out.2.1 HKS.out).mono ?_
      rintro e w3 ⟨rfl, hd3⟩
      have hb3 := hd3.below
      have HBE := am (below_step HBB.out.1.drew hb3)
      have HBF := am (below_step HBB.out.2.drew hb3)
      have z0 := (hb3.cell (c_lt dd0)).trans dd0
      have z1 := (hb3.cell (c_lt dd1)).trans dd1
      have z2 := (hb3.cell (c_lt dd2)).trans dd2
      have z3 := (hb3.cell (c_lt dd3)).trans dd3
      have z4 := (hb3.cell (c_lt dd4)).trans dd4
      have z5 := (hb3.cell (c_lt dd5)).trans dd5
      clear hb3 hd3
      refine ⟨_, rfl, ?_⟩
      refine hK.out _ _ ⟨z0, z1, z2, z3, z4, z5⟩ (fun hHeld => ?_)
      clear hK K
      refine norm_ (a' := ?_) ?_ ?_
      rotate_left
      ·show Act.put _ (some 45) _ = _
       simp only [Act.put, sAa, sBb, sCc, i64_w, i32_w]
       rfl
      refine pu 33 46 ?_
      refine pu 34 47 ?_
      refine done_ (by kernel_rfl) ?_
      cases q with
      | false =>
       go_wp2_with fail
       go_ret
       refine ⟨?_, HBE.out⟩
       rw [HBAD.out HU2.out]
       rfl
      | true =>
       go_wp2_with fail
       go_roundg k1
       case measure => have := HK.out; omega
       case rel =>
        refine ⟨i + 1, by rw [hw1], ⟨by have := HK.out; omega⟩, ⟨HBE.out, HBF.out⟩, ⟨fun j h hj => ?_⟩⟩
        by_cases e : j = i.toNat
        ·subst e; rw [HXX.out]; exact HU2.out
        ·exact HN.out j h (by omega)
     ·have b6 : (x.f6 == y.f6) = false := by simp [h6]
      have n6 : (x.f6 != y.f6) = true := by simp [h6]
      have HU2 : Aside0 (unlike y x = true) := ⟨by rw [HU.out, if_pos h4, if_neg h6]⟩
      clear h4 h6
      go_wp2_with fail
      go_quiet (fail)
      go_wp2_with fail
      go_ret
      refine ⟨?_, pw_below_drewN HBB.out.1 nq⟩
      rw [HBAD.out HU2.out]
      rfl
    ·have b4 : (x.f4 == y.f4) = false := by simp [h4]
     have n4 : (x.f4 != y.f4) = true := by simp [h4]
     have HU2 : Aside0 (unlike y x = true) := ⟨by rw [HU.out, if_neg h4]⟩
     clear h4
     go_wp2_with fail
     go_quiet (fail)
     go_wp2_with fail
     go_ret
     refine ⟨?_, pw_below_drewN HBB.out.1 nq⟩
     rw [HBAD.out HU2.out]
     rfl
   ·have hlt : decide (i < (s.length : Int)) = false := dF hi
    go_wp2_with fail
    go_ret
    refine ⟨?_, HBB.out.1⟩
    have : s.any (unlike y) = false := List.any_eq_false.2 fun z hz => by
     obtain ⟨j, hj, rfl⟩ := List.mem_iff_getElem.1 hz
     rw [HN.out j hj (by omega)]
     decide
    rw [HR.out, this]
    rfl
end Go.Proofs.YtbefbhghmommhaaGreatDoor.MWo
namespace Go.Proofs.YtbefbhghmommhaaGreatDoor.MWo
open Go.RowKit Go.Proofs.YtbefbhghmommhaaGreatDoorW.PrintWords Go.Proofs.YtbefbhghmommhaaGreatDoorW.PrintLast Go.Proofs.YtbefbhghmommhaaGreatDoorW.PrintMore
attribute [local go_sem] mp_u32s mp_u32m mp_u8s mp_u8m max2_int min2_int max_two min_two max_three min_three max_four min_four
set_option linter.unusedVariables false
set_option linter.unusedSimpArgs false
def ages_at.f (l0 : List Int) (a1 : Int) (a2 : Int) : Option (Int) := if a1 < 0 then (some a2) else (if a1 ≥ (l0.length : Int) then (some a2) else (if 0 ≤ a1 then (if a1 < (l0.length : Int) then (some (mn (mx (rd l0 a1) 0) a2)) else (none)) else (none)))
set_option maxHeartbeats 8000000 in
set_option maxRecDepth 100000 in
theorem ages_at.calls (A0 : Option Addr) (c0 : Nat) (l0 : List Int) (a1 : Int) (a2 : Int) (r : Int) (w : World) (hr0 : Kd.C (Kd.int .i64) w A0 l0.length l0) (hc0 : l0.length ≤ c0) (h : ages_at.f l0 a1 a2 = some r) :
  Calls Tryz.prog 67 #[.slice A0 l0.length c0, .int .i64 a1, .int .i64 a2] w fun e w' => e = .returned (.int .i64 r) ∧ Below w.heap.size w w' := by
 have HR0 := am hr0
 have HC0 := am hc0
 clear hr0 hc0
 have HB := am (Below.refl w.heap.size w)
 have H : (if a1 < 0 then (some a2) else (if a1 ≥ (l0.length : Int) then (some a2) else (if 0 ≤ a1 then (if a1 < (l0.length : Int) then (some (mn (mx (rd l0 a1) 0) a2)) else (none)) else (none)))) = some r := h
 clear h
 by_cases c4 : a1 < 0
 ·rw [if_pos c4] at H
  have c4b0 : decide (a1 < 0) = true := dT c4
  clear c4
  obtain rfl := Option.some.inj H
  go_enter Tryz.func67, Tryz.ntmps67
  go_wp2
  go_ret
  exact ⟨ew, bl0⟩
 ·rw [if_neg c4] at H
  have c4b0 : decide (a1 < 0) = false := dF c4
  clear c4
  by_cases c5 : a1 ≥ (l0.length : Int)
  ·rw [if_pos c5] at H
   have c5b0 : decide ((l0.length : Int) ≤ a1) = true := dT c5
   clear c5
   obtain rfl := Option.some.inj H
   go_enter Tryz.func67, Tryz.ntmps67
   go_wp2
   go_ret
   exact ⟨ew, bl0⟩
  ·rw [if_neg c5] at H
   have c5b0 : decide ((l0.length : Int) ≤ a1) = false := dF c5
   clear c5
   by_cases c6 : 0 ≤ a1
   ·rw [if_pos c6] at H
    have c6b0 : decide (0 ≤ a1) = true := dT c6
    clear c6
    by_cases c7 : a1 < (l0.length : Int)
    ·rw [if_pos c7] at H
     have c7b0 : decide (a1 < (l0.length : Int)) = true := dT c7
     clear c7
     obtain ⟨ji8, hji8⟩ : ∃ j_ : Int, (mx (rd l0 a1) 0) = j_ := ⟨_, rfl⟩
     replace H : (some (mn (ji8) a2)) = some r := by first | (rw [hji8] at H; exact H) | (simp only [hji8] at H ⊢; exact H)
     (try (have hji8l : 0 ≤ ji8 := by (rw [← hji8]; unfold mx; (repeat' split) <;> omega)))
     (try (have hji8m : 0 ≤ ji8 := by omega))
     have hji8_ : (if (rd l0 a1) < 0 then 0 else (rd l0 a1)) = ji8 := hji8
     obtain ⟨ji9, hji9⟩ : ∃ j_ : Int, (mn (ji8) a2) = j_ := ⟨_, rfl⟩
     replace H : (some ji9) = some r := by first | (rw [hji9] at H; exact H) | (simp only [hji9] at H ⊢; exact H)
     have hji9_ : (if a2 < (ji8) then a2 else (ji8)) = ji9 := hji9
     obtain rfl := Option.some.inj H
     have p163 : 0 ≤ (a1 : Int) := oT asm
     have q163 : a1 < (l0.length : Int) := oT asm
     obtain ⟨ad163, e163, hx163_0⟩ := Kd.at_int HR0.out a1 p163 q163
     cases e163
     replace p163 := eq_true p163
     replace q163 := eq_true q163
     go_enter Tryz.func67, Tryz.ntmps67
     go_wp2
     go_ret
     exact ⟨by first | rfl | (simp [errW_none, errW_some] <;> rfl) | (simp only [← hji8, ← hji9]; first | rfl | (simp [errW_none, errW_some] <;> rfl)) | (simp [*, errW_none, errW_some] <;> rfl), bl0⟩
    ·rw [if_neg c7] at H
     exact absurd H (by simp)
   ·rw [if_neg c6] at H
    exact absurd H (by simp)
def ages_bound.f (a0 : Int) : Option (Int) := some (mn (mx a0 0) 201)
set_option maxHeartbeats 8000000 in
set_option maxRecDepth 100000 in
theorem ages_bound.calls (a0 : Int) (r : Int) (w : World) (h : ages_bound.f a0 = some r) :
  Calls Tryz.prog 68 #[.int .i64 a0] w fun e w' => e = .returned (.int .i64 r) ∧ Below w.heap.size w w' := by
 have HB := am (Below.refl w.heap.size w)
 have H : (some (mn (mx a0 0) 201)) = some r := h
 clear h
 obtain ⟨ji2, hji2⟩ : ∃ j_ : Int, (mx a0 0) = j_ := ⟨_, rfl⟩
 replace H : (some (mn (ji2) 201)) = some r := by first | (rw [hji2] at H; exact H) | (simp only [hji2] at H ⊢; exact H)
 (try (have hji2l : 0 ≤ ji2 := by (rw [← hji2]; unfold mx; (repeat' split) <;> omega)))
 (try (have hji2m : 0 ≤ ji2 := by omega))
 have hji2_ : (if a0 < 0 then 0 else a0) = ji2 := hji2
 obtain ⟨ji3, hji3⟩ : ∃ j_ : Int, (mn (ji2) 201) = j_ := ⟨_, rfl⟩
 replace H : (some ji3) = some r := by first | (rw [hji3] at H; exact H) | (simp only [hji3] at H ⊢; exact H)
 have hji3_ : (if 201 < (ji2) then 201 else (ji2)) = ji3 := hji3
 obtain rfl := Option.some.inj H
 go_enter Tryz.func68, Tryz.ntmps68
 go_wp2
 go_ret
 exact ⟨by first | rfl | (simp [errW_none, errW_some] <;> rfl) | (simp only [← hji2, ← hji3]; first | rfl | (simp [errW_none, errW_some] <;> rfl)) | (simp [*, errW_none, errW_some] <;> rfl), bl0⟩
def ages_Alive.l0 : Nat → List Int → Int → Int → Int → Int → Option (Int)
 | 0, _, _, _, _, _ => none
 | k + 1, x0, x1, x5, x9, x10 => if x10 < x9 then ((ages_bound.f x1).bind fun t164 => ((ages_at.f x0 x10 t164).bind fun t165 => ((ages_bound.f x1).bind fun t166 => (if t165 < t166 then (if 0 ≤ x10 then (ages_Alive.l0 k x0 x1 (Go.bits .or .i64 x5 (shl .i64 1 x10)) x9 (wrap64 (x10 + 1))) else (none)) else (ages_Alive.l0 k x0 x1 x5 x9 (wrap64 (x10 + 1))))))) else (some x5)
def ages_Alive.f (k : Nat) (l0 : List Int) (a1 : Int) : Option (Int) := ages_Alive.l0 k l0 a1 0 (mn (l0.length : Int) 6) 0
set_option maxHeartbeats 8000000 in
set_option maxRecDepth 100000 in
theorem ages_Alive.calls (k : Nat) (A0 : Option Addr) (c0 : Nat) (l0 : List Int) (a1 : Int) (r : Int) (w : World) (hr0 : Kd.C (Kd.int .i64) w A0 l0.length l0) (hc0 : l0.length ≤ c0) (h : ages_Alive.f k l0 a1 = some r) :
  Calls Tryz.prog 52 #[.slice A0 l0.length c0, .int .i64 a1] w fun e w' => e = .returned (.int .i64 r) ∧ Below w.heap.size w w' := by
 have HR0 := am hr0
 have HC0 := am hc0
 clear hr0 hc0
 have HB := am (Below.refl w.heap.size w)
 have H : (ages_Alive.l0 k l0 a1 0 (mn (l0.length : Int) 6) 0) = some r := h
 clear h
 obtain ⟨ji3, hji3⟩ : ∃ j_ : Int, (mn (l0.length : Int) 6) = j_ := ⟨_, rfl⟩
 replace H : (ages_Alive.l0 k l0 a1 0 ji3 0) = some r := by first | (rw [hji3] at H; exact H) | (simp only [hji3] at H ⊢; exact H)
 (try (have hji3h : ji3 ≤ 6 := by (rw [← hji3]; unfold mn; (repeat' split) <;> omega)))
 (try (have hji3g : ji3 ≤ 64 := by omega))
 (try (have hji3l : 0 ≤ ji3 := by (rw [← hji3]; unfold mn; (repeat' split) <;> omega)))
 (try (have hji3m : 0 ≤ ji3 := by omega))
 have hji3_ : (if 6 < (l0.length : Int) then 6 else (l0.length : Int)) = ji3 := hji3
 have H' := am H
 clear H
 go_enter Tryz.func52, Tryz.ntmps52
 go_wp2
 go_loopg [5, 10] k (fun kq v5 v10 w' => ∃ (x5_1 : Int) (x10_1 : Int), v5 = .int .i64 x5_1 ∧ v10 = .int .i64 x10_1 ∧ Aside0 (ages_Alive.l0 kq l0 a1 x5_1 ji3 x10_1 = some r) ∧ Aside0 (kq ≤ k) ∧ Aside0 (Below w.heap.size w w'))
 case atStart => exact ⟨(0), (0), bx, bx, H', ⟨Nat.le_refl _⟩, ⟨bl0⟩⟩
 case round =>
  clear H'
  try clear p2
  obtain ⟨x5_1, x10_1, rfl, rfl, HA, HK1, HB⟩ := hrel
  cases gk with
  | zero => exact absurd HA.out (by simp [ages_Alive.l0])
  | succ k1 =>
   have H := HA.out
   clear HA
   simp only [ages_Alive.l0] at H
   by_cases c4 : x10_1 < ji3
   ·rw [if_pos c4] at H
    have c4b0 : decide (x10_1 < ji3) = true := dT c4
    clear c4
    replace H := bS H
    obtain ⟨t164, A50, H⟩ := H
    replace H : ((ages_at.f l0 x10_1 t164).bind fun t165 => ((ages_bound.f a1).bind fun t166 => (if t165 < t166 then (if 0 ≤ x10_1 then (ages_Alive.l0 k1 l0 a1 (Go.bits .or .i64 x5_1 (shl .i64 1 x10_1)) ji3 (wrap64 (x10_1 + 1))) else (none)) else (ages_Alive.l0 k1 l0 a1 x5_1 ji3 (wrap64 (x10_1 + 1)))))) = some r := H
    have A5 := am A50
    clear A50
    replace H := bS H
    obtain ⟨t165, A60, H⟩ := H
    replace H : ((ages_bound.f a1).bind fun t166 => (if t165 < t166 then (if 0 ≤ x10_1 then (ages_Alive.l0 k1 l0 a1 (Go.bits .or .i64 x5_1 (shl .i64 1 x10_1)) ji3 (wrap64 (x10_1 + 1))) else (none)) else (ages_Alive.l0 k1 l0 a1 x5_1 ji3 (wrap64 (x10_1 + 1))))) = some r := H
    have A6 := am A60
    clear A60
    replace H := bS H
    obtain ⟨t166, A70, H⟩ := H
    replace H : (if t165 < t166 then (if 0 ≤ x10_1 then (ages_Alive.l0 k1 l0 a1 (Go.bits .or .i64 x5_1 (shl .i64 1 x10_1)) ji3 (wrap64 (x10_1 + 1))) else (none)) else (ages_Alive.l0 k1 l0 a1 x5_1 ji3 (wrap64 (x10_1 + 1)))) = some r := H
    have A7 := am A70
    clear A70
    by_cases c8 : t165 < t166
    ·rw [if_pos c8] at H
     have c8b0 : decide (t165 < t166) = true := dT c8
     clear c8
     by_cases c9 : 0 ≤ x10_1
     ·rw [if_pos c9] at H
      have c9b0 := eq_true c9
      have c9b1 : decide (0 ≤ x10_1) = true := dT c9
      clear c9
      obtain ⟨ji10, hji10⟩ : ∃ j_ : Int, (shl .i64 1 x10_1) = j_ := ⟨_, rfl⟩
      replace H : (ages_Alive.l0 k1 l0 a1 (Go.bits .or .i64 x5_1 (ji10)) ji3 (wrap64 (x10_1 + 1))) = some r := by first | (rw [hji10] at H; exact H) | (simp only [hji10] at H ⊢; exact H)
      (try rw [hji10] at A5)
      (try rw [hji10] at A6)
      (try rw [hji10] at A7)
      have hji10_ : (IntKind.i64.wrap (1 * 2 ^ min x10_1.toNat 64)) = ji10 := hji10
      have hji10z : x10_1 ≤ 64 → (IntKind.i64.wrap (1 * 2 ^ x10_1.toNat)) = ji10 := shl_small hji10
      have hji10u : (IntKind.i64.wrap (2 ^ min x10_1.toNat 64)) = ji10 := by have h_ := hji10_; rw [Int.one_mul] at h_; exact h_
      have hji10v : x10_1 ≤ 64 → (IntKind.i64.wrap (2 ^ x10_1.toNat)) = ji10 := fun hle_ => by have h_ := hji10z hle_; rw [Int.one_mul] at h_; exact h_
      have hji10y : (wrap64 (1 * 2 ^ min x10_1.toNat 64)) = ji10 := (i64_w _).symm.trans hji10_
      have hji10x : x10_1 ≤ 64 → (wrap64 (1 * 2 ^ x10_1.toNat)) = ji10 := fun h_ => (i64_w _).symm.trans (hji10z h_)
      have H' := am H
      clear H
      go_wp2_with (first | ((with_reducible refine gate_callee (f := 68) rfl ?_); refine goesL_ (some 16) rfl rfl Tryz.func68 (by kernel_rfl) rfl #[.int .i64 a1] rfl lm ?_; (with_reducible refine (ages_bound.calls a1 t164 _ A5.out).mono ?_); rintro e w11 ⟨rfl, hb⟩; refine ⟨_, rfl, ?_⟩; have n0_ := am (below_step bl0 hb); clear HB; have HB := n0_; clear n0_; (try clear hb); (try clear hb2); (try clear hk); (try clear hi)) | ((with_reducible refine gate_callee (f := 67) rfl ?_); refine goesL_ (some 17) rfl rfl Tryz.func67 (by kernel_rfl) rfl #[.slice A0 l0.length c0, .int .i64 x10_1, .int .i64 t164] rfl lm ?_; (with_reducible refine (ages_at.calls _ _ l0 x10_1 t164 t165 _ ?side1 ?side2 A6.out).mono ?_); (case side1 => exact kc HR0); (case side2 => exact HC0.out); rintro e w12 ⟨rfl, hb⟩; refine ⟨_, rfl, ?_⟩; have n0_ := am (below_step bl0 hb); clear HB; have HB := n0_; clear n0_; (try clear hb); (try clear hb2); (try clear hk); (try clear hi)) | ((with_reducible refine gate_callee (f := 68) rfl ?_); refine goesL_ (some 19) rfl rfl Tryz.func68 (by kernel_rfl) rfl #[.int .i64 a1] rfl lm ?_; (with_reducible refine (ages_bound.calls a1 t166 _ A7.out).mono ?_); rintro e w13 ⟨rfl, hb⟩; refine ⟨_, rfl, ?_⟩; have n0_ := am (below_step bl0 hb); clear HB; have HB := n0_; clear n0_; (try clear hb); (try clear hb2); (try clear hk); (try clear hi)))
      go_roundg k1
      case measure => have := HK1.out; omega
      case rel => exact ⟨(Go.bits .or .i64 x5_1 (ji10)), (wrap64 (x10_1 + 1)), (by first | rfl | (simp; done) | (simp only [← hji10] <;> (first | rfl | simp)) | (simp [*]; done)), bx, H', ⟨by have := HK1.out; omega⟩, ⟨bl0⟩⟩
     ·rw [if_neg c9] at H
      exact absurd H (by simp)
    ·rw [if_neg c8] at H
     have c8b0 : decide (t165 < t166) = false := dF c8
     clear c8
     have H' := am H
     clear H
     go_wp2_with (first | ((with_reducible refine gate_callee (f := 68) rfl ?_); refine goesL_ (some 16) rfl rfl Tryz.func68 (by kernel_rfl) rfl #[.int .i64 a1] rfl lm ?_; (with_reducible refine (ages_bound.calls a1 t164 _ A5.out).mono ?_); rintro e w14 ⟨rfl, hb⟩; refine ⟨_, rfl, ?_⟩; have n0_ := am (below_step bl0 hb); clear HB; have HB := n0_; clear n0_; (try clear hb); (try clear hb2); (try clear hk); (try clear hi)) | ((with_reducible refine gate_callee (f := 67) rfl ?_); refine goesL_ (some 17) rfl rfl Tryz.func67 (by kernel_rfl) rfl #[.slice A0 l0.length c0, .int .i64 x10_1, .int .i64 t164] rfl lm ?_; (with_reducible refine (ages_at.calls _ _ l0 x10_1 t164 t165 _ ?side1 ?side2 A6.out).mono ?_); (case side1 => exact kc HR0); (case side2 => exact HC0.out); rintro e w15 ⟨rfl, hb⟩; refine ⟨_, rfl, ?_⟩; have n0_ := am (below_step bl0 hb); clear HB; have HB := n0_; clear n0_; (try clear hb); (try clear hb2); (try clear hk); (try clear hi)) | ((with_reducible refine gate_callee (f := 68) rfl ?_); refine goesL_ (some 19) rfl rfl Tryz.func68 (by kernel_rfl) rfl #[.int .i64 a1] rfl lm ?_; (with_reducible refine (ages_bound.calls a1 t166 _ A7.out).mono ?_); rintro e w16 ⟨rfl, hb⟩; refine ⟨_, rfl, ?_⟩; have n0_ := am (below_step bl0 hb); clear HB; have HB := n0_; clear n0_; (try clear hb); (try clear hb2); (try clear hk); (try clear hi)))
     go_roundg k1
     case measure => have := HK1.out; omega
     case rel => exact ⟨(x5_1), (wrap64 (x10_1 + 1)), bx, bx, H', ⟨by have := HK1.out; omega⟩, ⟨bl0⟩⟩
   ·rw [if_neg c4] at H
    have c4b0 : decide (x10_1 < ji3) = false := dF c4
    clear c4
    obtain rfl := Option.some.inj H
    go_wp2
    go_ret
    exact ⟨by first | rfl | (simp [errW_none, errW_some] <;> rfl) | (simp only [← hji3]; first | rfl | (simp [errW_none, errW_some] <;> rfl)) | (simp [*, errW_none, errW_some] <;> rfl), bl0⟩
def ages_Root.l0 : Nat → Int → Int → Option (Int)
 | 0, _, _ => none
 | k + 1, x5, x10 => if x10 < 6 then (if 0 ≤ x10 then (if (Go.bits .and .i64 (shr .i64 x5 x10) 1) = 1 then (some x10) else (ages_Root.l0 k x5 (wrap64 (x10 + 1)))) else (none)) else (some (-1))
def ages_Root.f (k : Nat) (l0 : List Int) (a1 : Int) : Option (Int) := (ages_Alive.f k l0 a1).bind fun t167 => (ages_Root.l0 k t167 0)
set_option maxHeartbeats 8000000 in
set_option maxRecDepth 100000 in
theorem ages_Root.calls (k : Nat) (A0 : Option Addr) (c0 : Nat) (l0 : List Int) (a1 : Int) (r : Int) (w : World) (hr0 : Kd.C (Kd.int .i64) w A0 l0.length l0) (hc0 : l0.length ≤ c0) (h : ages_Root.f k l0 a1 = some r) :
  Calls Tryz.prog 25 #[.slice A0 l0.length c0, .int .i64 a1] w fun e w' => e = .returned (.int .i64 r) ∧ Below w.heap.size w w' := by
 have HR0 := am hr0
 have HC0 := am hc0
 clear hr0 hc0
 have HB := am (Below.refl w.heap.size w)
 have H : ((ages_Alive.f k l0 a1).bind fun t167 => (ages_Root.l0 k t167 0)) = some r := h
 clear h
 replace H := bS H
 obtain ⟨t167, A30, H⟩ := H
 replace H : (ages_Root.l0 k t167 0) = some r := H
 have A3 := am A30
 clear A30
 have H' := am H
 clear H
 go_enter Tryz.func25, Tryz.ntmps25
 go_wp2_with (first | ((with_reducible refine gate_callee (f := 52) rfl ?_); refine goesL_ (some 9) rfl rfl Tryz.func52 (by kernel_rfl) rfl #[.slice A0 l0.length c0, .int .i64 a1] rfl lm ?_; (with_reducible refine (ages_Alive.calls k _ _ l0 a1 t167 _ ?side1 ?side2 A3.out).mono ?_); (case side1 => repeat (first | exact HR0.out | (with_reducible refine Kd.C_alloc ?_ _) | (with_reducible refine Kd.C_drewN ?_ _) | (with_reducible refine Kd.C_drew ?_))); (case side2 => exact HC0.out); rintro e w4 ⟨rfl, hb⟩; refine ⟨_, rfl, ?_⟩; have n0_ := am (below_step bl0 hb); clear HB; have HB := n0_; clear n0_; (try clear hb); (try clear hb2); (try clear hk); (try clear hi)))
 go_loopg [10] k (fun kq v10 w' => ∃ (x10_1 : Int), v10 = .int .i64 x10_1 ∧ Aside0 (ages_Root.l0 kq t167 x10_1 = some r) ∧ Aside0 (kq ≤ k) ∧ Aside0 (Below w.heap.size w w'))
 case atStart => exact ⟨(0), bx, H', ⟨Nat.le_refl _⟩, ⟨bl0⟩⟩
 case round =>
  clear H'
  try clear c2
  try clear p2
  obtain ⟨x10_1, rfl, HA, HK1, HB⟩ := hrel
  cases gk with
  | zero => exact absurd HA.out (by simp [ages_Root.l0])
  | succ k1 =>
   have H := HA.out
   clear HA
   simp only [ages_Root.l0] at H
   by_cases c5 : x10_1 < 6
   ·rw [if_pos c5] at H
    have c5b0 : decide (x10_1 < 6) = true := dT c5
    clear c5
    by_cases c6 : 0 ≤ x10_1
    ·rw [if_pos c6] at H
     have c6b0 := eq_true c6
     have c6b1 : decide (0 ≤ x10_1) = true := dT c6
     clear c6
     obtain ⟨ji7, hji7⟩ : ∃ j_ : Int, (shr .i64 t167 x10_1) = j_ := ⟨_, rfl⟩
     replace H : (if (Go.bits .and .i64 (ji7) 1) = 1 then (some x10_1) else (ages_Root.l0 k1 t167 (wrap64 (x10_1 + 1)))) = some r := by first | (rw [hji7] at H; exact H) | (simp only [hji7] at H ⊢; exact H)
     have hji7_ : (t167 / 2 ^ min x10_1.toNat 64) = ji7 := hji7
     have hji7z : x10_1 ≤ 64 → (t167 / 2 ^ x10_1.toNat) = ji7 := shr_small hji7
     by_cases c8 : (Go.bits .and .i64 (ji7) 1) = 1
     ·rw [if_pos c8] at H
      have c8b0 : ((Go.bits .and .i64 (ji7) 1) == 1) = true := beq_iff_eq.mpr c8
      have c8b1 : ((Go.bits .and .i64 (ji7) 1) != 1) = false := bne_eq_false_iff_eq.mpr c8
      clear c8
      obtain rfl := Option.some.inj H
      go_wp2
      go_ret
      exact ⟨by first | rfl | (simp [errW_none, errW_some] <;> rfl) | (simp only [← hji7]; first | rfl | (simp [errW_none, errW_some] <;> rfl)) | (simp [*, errW_none, errW_some] <;> rfl), bl0⟩
     ·rw [if_neg c8] at H
      have c8b0 : ((Go.bits .and .i64 (ji7) 1) == 1) = false := beq_eq_false_iff_ne.mpr c8
      have c8b1 : ((Go.bits .and .i64 (ji7) 1) != 1) = true := bne_iff_ne.mpr c8
      have H' := am H
      clear H
      go_wp2
      go_roundg k1
      case measure => have := HK1.out; omega
      case rel => exact ⟨(wrap64 (x10_1 + 1)), bx, H', ⟨by have := HK1.out; omega⟩, ⟨bl0⟩⟩
    ·rw [if_neg c6] at H
     exact absurd H (by simp)
   ·rw [if_neg c5] at H
    have c5b0 : decide (x10_1 < 6) = false := dF c5
    clear c5
    obtain rfl := Option.some.inj H
    go_wp2
    go_ret
    exact ⟨ew, bl0⟩
def dr10_bound.f (a0 : Int) : Option (Int) := some (mn (mx a0 0) 201)
set_option maxHeartbeats 8000000 in
set_option maxRecDepth 100000 in
theorem dr10_bound.calls (a0 : Int) (r : Int) (w : World) (h : dr10_bound.f a0 = some r) :
  Calls Tryz.prog 69 #[.int .i64 a0] w fun e w' => e = .returned (.int .i64 r) ∧ Below w.heap.size w w' := by
 have HB := am (Below.refl w.heap.size w)
 have H : (some (mn (mx a0 0) 201)) = some r := h
 clear h
 obtain ⟨ji2, hji2⟩ : ∃ j_ : Int, (mx a0 0) = j_ := ⟨_, rfl⟩
 replace H : (some (mn (ji2) 201)) = some r := by first | (rw [hji2] at H; exact H) | (simp only [hji2] at H ⊢; exact H)
 (try (have hji2l : 0 ≤ ji2 := by (rw [← hji2]; unfold mx; (repeat' split) <;> omega)))
 (try (have hji2m : 0 ≤ ji2 := by omega))
 have hji2_ : (if a0 < 0 then 0 else a0) = ji2 := hji2
 obtain ⟨ji3, hji3⟩ : ∃ j_ : Int, (mn (ji2) 201) = j_ := ⟨_, rfl⟩
 replace H : (some ji3) = some r := by first | (rw [hji3] at H; exact H) | (simp only [hji3] at H ⊢; exact H)
 have hji3_ : (if 201 < (ji2) then 201 else (ji2)) = ji3 := hji3
 obtain rfl := Option.some.inj H
 go_enter Tryz.func69, Tryz.ntmps69
 go_wp2
 go_ret
 exact ⟨by first | rfl | (simp [errW_none, errW_some] <;> rfl) | (simp only [← hji2, ← hji3]; first | rfl | (simp [errW_none, errW_some] <;> rfl)) | (simp [*, errW_none, errW_some] <;> rfl), bl0⟩
def dr10_age.f (l0 : List Int) (a1 : Int) (a2 : Int) : Option (Int) := if a1 < 0 then (some a2) else (if a1 ≥ (l0.length : Int) then (some a2) else (if 0 ≤ a1 then (if a1 < (l0.length : Int) then (some (mn (mx (rd l0 a1) 0) a2)) else (none)) else (none)))
set_option maxHeartbeats 8000000 in
set_option maxRecDepth 100000 in
theorem dr10_age.calls (A0 : Option Addr) (c0 : Nat) (l0 : List Int) (a1 : Int) (a2 : Int) (r : Int) (w : World) (hr0 : Kd.C (Kd.int .i64) w A0 l0.length l0) (hc0 : l0.length ≤ c0) (h : dr10_age.f l0 a1 a2 = some r) :
  Calls Tryz.prog 70 #[.slice A0 l0.length c0, .int .i64 a1, .int .i64 a2] w fun e w' => e = .returned (.int .i64 r) ∧ Below w.heap.size w w' := by
 have HR0 := am hr0
 have HC0 := am hc0
 clear hr0 hc0
 have HB := am (Below.refl w.heap.size w)
 have H : (if a1 < 0 then (some a2) else (if a1 ≥ (l0.length : Int) then (some a2) else (if 0 ≤ a1 then (if a1 < (l0.length : Int) then (some (mn (mx (rd l0 a1) 0) a2)) else (none)) else (none)))) = some r := h
 clear h
 by_cases c4 : a1 < 0
 ·rw [if_pos c4] at H
  have c4b0 : decide (a1 < 0) = true := dT c4
  clear c4
  obtain rfl := Option.some.inj H
  go_enter Tryz.func70, Tryz.ntmps70
  go_wp2
  go_ret
  exact ⟨ew, bl0⟩
 ·rw [if_neg c4] at H
  have c4b0 : decide (a1 < 0) = false := dF c4
  clear c4
  by_cases c5 : a1 ≥ (l0.length : Int)
  ·rw [if_pos c5] at H
   have c5b0 : decide ((l0.length : Int) ≤ a1) = true := dT c5
   clear c5
   obtain rfl := Option.some.inj H
   go_enter Tryz.func70, Tryz.ntmps70
   go_wp2
   go_ret
   exact ⟨ew, bl0⟩
  ·rw [if_neg c5] at H
   have c5b0 : decide ((l0.length : Int) ≤ a1) = false := dF c5
   clear c5
   by_cases c6 : 0 ≤ a1
   ·rw [if_pos c6] at H
    have c6b0 : decide (0 ≤ a1) = true := dT c6
    clear c6
    by_cases c7 : a1 < (l0.length : Int)
    ·rw [if_pos c7] at H
     have c7b0 : decide (a1 < (l0.length : Int)) = true := dT c7
     clear c7
     obtain ⟨ji8, hji8⟩ : ∃ j_ : Int, (mx (rd l0 a1) 0) = j_ := ⟨_, rfl⟩
     replace H : (some (mn (ji8) a2)) = some r := by first | (rw [hji8] at H; exact H) | (simp only [hji8] at H ⊢; exact H)
     (try (have hji8l : 0 ≤ ji8 := by (rw [← hji8]; unfold mx; (repeat' split) <;> omega)))
     (try (have hji8m : 0 ≤ ji8 := by omega))
     have hji8_ : (if (rd l0 a1) < 0 then 0 else (rd l0 a1)) = ji8 := hji8
     obtain ⟨ji9, hji9⟩ : ∃ j_ : Int, (mn (ji8) a2) = j_ := ⟨_, rfl⟩
     replace H : (some ji9) = some r := by first | (rw [hji9] at H; exact H) | (simp only [hji9] at H ⊢; exact H)
     have hji9_ : (if a2 < (ji8) then a2 else (ji8)) = ji9 := hji9
     obtain rfl := Option.some.inj H
     have p195 : 0 ≤ (a1 : Int) := oT asm
     have q195 : a1 < (l0.length : Int) := oT asm
     obtain ⟨ad195, e195, hx195_0⟩ := Kd.at_int HR0.out a1 p195 q195
     cases e195
     replace p195 := eq_true p195
     replace q195 := eq_true q195
     go_enter Tryz.func70, Tryz.ntmps70
     go_wp2
     go_ret
     exact ⟨by first | rfl | (simp [errW_none, errW_some] <;> rfl) | (simp only [← hji8, ← hji9]; first | rfl | (simp [errW_none, errW_some] <;> rfl)) | (simp [*, errW_none, errW_some] <;> rfl), bl0⟩
    ·rw [if_neg c7] at H
     exact absurd H (by simp)
   ·rw [if_neg c6] at H
    exact absurd H (by simp)
end Go.Proofs.YtbefbhghmommhaaGreatDoor.MWo
