/- Texts of this claim, laid together by a program (wip/g/merge5.py): MWox39. -/
import Derived.Test.YtbefbhghmommhaaDoorZHz4
namespace Go.Proofs.YtbefbhghmommhaaDoor.MWo
open Go.RowKit Go.Proofs.YtbefbhghmommhaaDoorW.PrintWords Go.Proofs.YtbefbhghmommhaaDoorW.PrintLast Go.Proofs.YtbefbhghmommhaaDoorW.PrintMore
attribute [local go_sem] mp_u32s mp_u32m mp_u8s mp_u8m max2_int min2_int max_two min_two max_three min_three max_four min_four
set_option linter.unusedVariables false
set_option linter.unusedSimpArgs false
mutual
def dr5_dists.l0 : Nat → Int → List Int → Int → List (S43) → List (S39) → Int → Int → Int → Int → Int → Int → Int → Int → Int → Int → Int → Option (List Int)
 | 0, _, _, _, _, _, _, _, _, _, _, _, _, _, _, _, _ => none
 | k + 1, x1, x5, x6, x165000, x165001, x165002, x165003, x165004, x165005, x165006, x165007, x165008, x165009, x165010, x165011, x165012 => if x6 < (x5.length : Int) then (if 0 ≤ x6 then (dr5_dists.l0 k x1 (x5.set (x6 : Int).toNat (-1)) (wrap64 (x6 + 1)) x165000 x165001 x165002 x165003 x165004 x165005 x165006 x165007 x165008 x165009 x165010 x165011 x165012) else (none)) else (if 0 ≤ x1 then (if x1 < (x5.length : Int) then (dr5_dists.l1 k (x5.set (x1 : Int).toNat 0) 0 x165000 x165001 x165002 x165003 x165004 x165005 x165006 x165007 x165008 x165009 x165010 x165011 x165012) else (none)) else (none))
def dr5_dists.l1 : Nat → List Int → Int → List (S43) → List (S39) → Int → Int → Int → Int → Int → Int → Int → Int → Int → Int → Int → Option (List Int)
 | 0, _, _, _, _, _, _, _, _, _, _, _, _, _, _, _ => none
 | k + 1, x5, x7, x165000, x165001, x165002, x165003, x165004, x165005, x165006, x165007, x165008, x165009, x165010, x165011, x165012 => if x7 < (x5.length : Int) then (dr5_dists.l2 k x5 x7 0 x165000 x165001 x165002 x165003 x165004 x165005 x165006 x165007 x165008 x165009 x165010 x165011 x165012) else (some x5)
def dr5_dists.l2 : Nat → List Int → Int → Int → List (S43) → List (S39) → Int → Int → Int → Int → Int → Int → Int → Int → Int → Int → Int → Option (List Int)
 | 0, _, _, _, _, _, _, _, _, _, _, _, _, _, _, _, _ => none
 | k + 1, x5, x7, x8, x165000, x165001, x165002, x165003, x165004, x165005, x165006, x165007, x165008, x165009, x165010, x165011, x165012 => if x8 < (x165001.length : Int) then (if 0 ≤ x8 then (if 0 ≤ ((rd_T39 x165001 x8).f0) then (if ((rd_T39 x165001 x8).f0) < (x5.length : Int) then (if (rd x5 ((rd_T39 x165001 x8).f0)) = x7 then (if 0 ≤ ((rd_T39 x165001 x8).f1) then (if ((rd_T39 x165001 x8).f1) < (x5.length : Int) then (dr5_dists.j3 k x5 x7 x8 (decide ((rd x5 ((rd_T39 x165001 x8).f1)) < 0)) x165000 x165001 x165002 x165003 x165004 x165005 x165006 x165007 x165008 x165009 x165010 x165011 x165012 ((rd_T39 x165001 x8).f0) ((rd_T39 x165001 x8).f1) ((rd_T39 x165001 x8).f2.f0) ((rd_T39 x165001 x8).f2.f1) ((rd_T39 x165001 x8).f3.f0) ((rd_T39 x165001 x8).f3.f1)) else (none)) else (none)) else (dr5_dists.j3 k x5 x7 x8 false x165000 x165001 x165002 x165003 x165004 x165005 x165006 x165007 x165008 x165009 x165010 x165011 x165012 ((rd_T39 x165001 x8).f0) ((rd_T39 x165001 x8).f1) ((rd_T39 x165001 x8).f2.f0) ((rd_T39 x165001 x8).f2.f1) ((rd_T39 x165001 x8).f3.f0) ((rd_T39 x165001 x8).f3.f1))) else (none)) else (none)) else (none)) else (dr5_dists.l1 k x5 (wrap64 (x7 + 1)) x165000 x165001 x165002 x165003 x165004 x165005 x165006 x165007 x165008 x165009 x165010 x165011 x165012)
def dr5_dists.j3 : Nat → List Int → Int → Int → Bool → List (S43) → List (S39) → Int → Int → Int → Int → Int → Int → Int → Int → Int → Int → Int → Int → Int → Int → Int → Int → Int → Option (List Int)
 | 0, _, _, _, _, _, _, _, _, _, _, _, _, _, _, _, _, _, _, _, _, _, _, _ => none
 | k + 1, x5, x7, x8, x58, x165000, x165001, x165002, x165003, x165004, x165005, x165006, x165007, x165008, x165009, x165010, x165011, x165012, x172000, x172001, x172002, x172003, x172004, x172005 => if x58 = true then (if 0 ≤ x172001 then (if x172001 < (x5.length : Int) then ((some (x5.set (x172001 : Int).toNat (wrap64 (x7 + 1)) : List Int)).bind fun y174 => (if (rd y174 x172001) = x7 then (if 0 ≤ x172000 then (if x172000 < (x5.length : Int) then (if (rd y174 x172000) < 0 then (dr5_dists.l2 k (y174.set (x172000 : Int).toNat (wrap64 (x7 + 1))) x7 (wrap64 (x8 + 1)) x165000 x165001 x165002 x165003 x165004 x165005 x165006 x165007 x165008 x165009 x165010 x165011 x165012) else (dr5_dists.l2 k y174 x7 (wrap64 (x8 + 1)) x165000 x165001 x165002 x165003 x165004 x165005 x165006 x165007 x165008 x165009 x165010 x165011 x165012)) else (none)) else (none)) else (dr5_dists.l2 k y174 x7 (wrap64 (x8 + 1)) x165000 x165001 x165002 x165003 x165004 x165005 x165006 x165007 x165008 x165009 x165010 x165011 x165012))) else (none)) else (none)) else (if 0 ≤ x172001 then (if x172001 < (x5.length : Int) then (if (rd x5 x172001) = x7 then (if 0 ≤ x172000 then (if x172000 < (x5.length : Int) then (if (rd x5 x172000) < 0 then (dr5_dists.l2 k (x5.set (x172000 : Int).toNat (wrap64 (x7 + 1))) x7 (wrap64 (x8 + 1)) x165000 x165001 x165002 x165003 x165004 x165005 x165006 x165007 x165008 x165009 x165010 x165011 x165012) else (dr5_dists.l2 k x5 x7 (wrap64 (x8 + 1)) x165000 x165001 x165002 x165003 x165004 x165005 x165006 x165007 x165008 x165009 x165010 x165011 x165012)) else (none)) else (none)) else (dr5_dists.l2 k x5 x7 (wrap64 (x8 + 1)) x165000 x165001 x165002 x165003 x165004 x165005 x165006 x165007 x165008 x165009 x165010 x165011 x165012)) else (none)) else (none))
end
def dr5_dists.f (k : Nat) (l0_0 : List (S43)) (l0_1 : List (S39)) (a0_2 : Int) (a0_3 : Int) (a0_4 : Int) (a0_5 : Int) (a0_6 : Int) (a0_7 : Int) (a0_8 : Int) (a0_9 : Int) (a0_10 : Int) (a0_11 : Int) (a0_12 : Int) (a1 : Int) : Option (List Int) := if 0 ≤ (l0_0.length : Int) then (if ((l0_0.length : Int) : Int).toNat ≤ 35184372088832 then (dr5_dists.l0 k a1 (List.replicate ((l0_0.length : Int) : Int).toNat 0) 0 l0_0 l0_1 a0_2 a0_3 a0_4 a0_5 a0_6 a0_7 a0_8 a0_9 a0_10 a0_11 a0_12) else (none)) else (none)
set_option maxHeartbeats 8000000 in
set_option maxRecDepth 100000 in
theorem dr5_dists.calls (k : Nat) (A0_0 : Option Addr) (c0_0 : Nat) (l0_0 : List (S43)) (A0_1 : Option Addr) (c0_1 : Nat) (l0_1 : List (S39)) (a0_2 : Int) (a0_3 : Int) (a0_4 : Int) (a0_5 : Int) (a0_6 : Int) (a0_7 : Int) (a0_8 : Int) (a0_9 : Int) (a0_10 : Int) (a0_11 : Int) (a0_12 : Int) (a1 : Int) (r : List Int) (w : World) (hr0_0 : Kd.C k43 w A0_0 l0_0.length l0_0) (hc0_0 : l0_0.length ≤ c0_0) (hr0_1 : Kd.C k39 w A0_1 l0_1.length l0_1) (hc0_1 : l0_1.length ≤ c0_1) (h : dr5_dists.f k l0_0 l0_1 a0_2 a0_3 a0_4 a0_5 a0_6 a0_7 a0_8 a0_9 a0_10 a0_11 a0_12 a1 = some r) :
  Calls Tryd.prog 18 #[.agg #[.slice A0_0 l0_0.length c0_0, .slice A0_1 l0_1.length c0_1, .int .i64 a0_2, .int .i64 a0_3, .int .i64 a0_4, .int .i64 a0_5, .int .i64 a0_6, .int .i64 a0_7, .int .i64 a0_8, .int .i64 a0_9, .int .i64 a0_10, .int .i64 a0_11, .int .i64 a0_12], .int .i64 a1] w fun e w' => ∃ v0_ : Value, e = .returned (v0_) ∧ Kd.R (Kd.int .i64) 3 w' w.heap.size (fun _ => True) v0_ r ∧ Below w.heap.size w w' := by
 have hu25 := Tryd.underlying25
 have hu39 := Tryd.underlying39
 have HR0_0 := am hr0_0
 have HC0_0 := am hc0_0
 clear hr0_0 hc0_0
 have HR0_1 := am hr0_1
 have HC0_1 := am hc0_1
 clear hr0_1 hc0_1
 have HB := am (Below.refl w.heap.size w)
 have H : (if 0 ≤ (l0_0.length : Int) then (if ((l0_0.length : Int) : Int).toNat ≤ 35184372088832 then (dr5_dists.l0 k a1 (List.replicate ((l0_0.length : Int) : Int).toNat 0) 0 l0_0 l0_1 a0_2 a0_3 a0_4 a0_5 a0_6 a0_7 a0_8 a0_9 a0_10 a0_11 a0_12) else (none)) else (none)) = some r := h
 clear h
 by_cases c3 : 0 ≤ (l0_0.length : Int)
 ·rw [if_pos c3] at H
  have c3b0 := eq_true c3
  have c3b1 : decide (0 ≤ (l0_0.length : Int)) = true := dT c3
  clear c3
  by_cases c4 : ((l0_0.length : Int) : Int).toNat ≤ 35184372088832
  ·rw [if_pos c4] at H
   have c4b0 := eq_true c4
   have c4b1 : decide (((l0_0.length : Int) : Int).toNat ≤ 35184372088832) = true := dT c4
   clear c4
   obtain ⟨y165, hy165⟩ : ∃ y_ : List Int, y_ = (List.replicate ((l0_0.length : Int) : Int).toNat 0) := ⟨_, rfl⟩
   replace H : (dr5_dists.l0 k a1 y165 0 l0_0 l0_1 a0_2 a0_3 a0_4 a0_5 a0_6 a0_7 a0_8 a0_9 a0_10 a0_11 a0_12) = some r := by first | (rw [hy165]; with_reducible exact H) | (have H2_ := (Option.bind_some _ _).symm.trans H; rw [hy165]; with_reducible exact H2_) | (have H2_ := (Option.bind_some _ _).symm.trans H; with_reducible exact H2_) | with_reducible exact H | (rw [hy165]; exact H) | exact H
   have Ny165 := am hy165
   clear hy165
   have H' := am H
   clear H
   go_enter Tryd.func18, Tryd.ntmps18
   go_wp2_with (first | ((with_reducible refine gate_dst (N := 2) rfl ?_); refine bxe 2 #[.slice A0_0 l0_0.length c0_0, .slice A0_1 l0_1.length c0_1, .int .i64 a0_2, .int .i64 a0_3, .int .i64 a0_4, .int .i64 a0_5, .int .i64 a0_6, .int .i64 a0_7, .int .i64 a0_8, .int .i64 a0_9, .int .i64 a0_10, .int .i64 a0_11, .int .i64 a0_12] 25 ?_; intro gb164 hg w5 hbox hb; have n0_ := am (below_step bl0 hb); have n1_ := am (hbox); have n2_ := am (gw0 hg); have n3_ := am (gw0 hg); clear HB; have HB := n0_; have BK164 := n1_; have GW164 := n2_; have GE164 := n3_; clear n0_ n1_ n2_ n3_; clear hb hbox hg; obtain ⟨hcz6_0, hcz6_1, hcz6_2, hcz6_3, hcz6_4, hcz6_5, hcz6_6, hcz6_7, hcz6_8, hcz6_9, hcz6_10, hcz6_11, hcz6_12⟩ := cellsK13 BK164.out; obtain ⟨hfz6_0, hfz6_1, hfz6_2, hfz6_3, hfz6_4, hfz6_5, hfz6_6, hfz6_7, hfz6_8, hfz6_9, hfz6_10, hfz6_11, hfz6_12⟩ := frozK13 BK164.out) | ((with_reducible refine gate_dst (N := 13) rfl ?_); refine Kd.R_make (Kd.int .i64) _ 3 rfl (N := 13) rfl 29 _ _ rfl (l0_0.length : Int) rfl rfl Tryd.underlying29 (.int .i64 0) 8 info3 rfl (by decide) (by omega) 0 (ok := fun _ => True) (okp := fun _ => True) rfl (fun _ hk => hk) trivial (oT asm) (Nat.le_trans (Nat.mul_le_mul_right _ (oT asm : (l0_0.length : Int).toNat ≤ 35184372088832)) (by omega)) (Below.refl _ _) (Nat.le_refl _) ?_; intro v166 w7 ho8 hb hg_ hnew_; clear hg_ hnew_; (first | rw [← Ny165.out] at ho8 | (simp only [Int.reduceToNat] at ho8; rw [← Ny165.out] at ho8)); have n0_ := am (Kd.R_lower ho8 (below_size (bl1 GE164))); have n1_ := am (blk_below (bk BK164) hb); have n2_ := am (below_step (bl1 GE164) hb); clear BK164; clear HB; have HO167 := n0_; have BK164 := n1_; have HB := n2_; clear n0_ n1_ n2_; clear hb ho8))
   go_loopg [6] k (fun kq v6 w' => ∃ (x5_1 : List Int) (x6_1 : Int), v6 = .int .i64 x6_1 ∧ Aside0 (dr5_dists.l0 kq a1 x5_1 x6_1 l0_0 l0_1 a0_2 a0_3 a0_4 a0_5 a0_6 a0_7 a0_8 a0_9 a0_10 a0_11 a0_12 = some r) ∧ Aside0 (kq ≤ k) ∧ Aside0 (Kd.R (Kd.int .i64) 3 w' w.heap.size (fun _ => True) v166 x5_1) ∧ Aside0 (w'.heap[gb164]? = some (.cells #[(.slice A0_0 l0_0.length c0_0), (.slice A0_1 l0_1.length c0_1), .int .i64 a0_2, .int .i64 a0_3, .int .i64 a0_4, .int .i64 a0_5, .int .i64 a0_6, .int .i64 a0_7, .int .i64 a0_8, .int .i64 a0_9, .int .i64 a0_10, .int .i64 a0_11, .int .i64 a0_12] 25 (0, 0))) ∧ Aside0 (Below w.heap.size w w'))
   case atStart => exact ⟨(y165), (0), bx, H', ⟨Nat.le_refl _⟩, ⟨kr HO167.out⟩, ⟨bk BK164⟩, ⟨bl1 GE164⟩⟩
   case round =>
    clear H'
    try clear c1
    try clear p2
    try clear c3
    try clear c3b0
    try clear c3b1
    try clear c4
    try clear c4b0
    try clear c4b1
    try clear hcz6_0 hcz6_1 hcz6_10 hcz6_11 hcz6_12 hcz6_2 hcz6_3 hcz6_4 hcz6_5 hcz6_6 hcz6_7 hcz6_8 hcz6_9
    try clear hfz6_0 hfz6_1 hfz6_10 hfz6_11 hfz6_12 hfz6_2 hfz6_3 hfz6_4 hfz6_5 hfz6_6 hfz6_7 hfz6_8 hfz6_9
    obtain ⟨x5_1, x6_1, rfl, HA, HK1, HO_5, BK164, HB⟩ := hrel
    cases gk with
    | zero => exact absurd HA.out (by simp [dr5_dists.l0])
    | succ k1 =>
     have H := HA.out
     clear HA
     simp only [dr5_dists.l0] at H
     by_cases c9 : x6_1 < (x5_1.length : Int)
     ·rw [if_pos c9] at H
      have c9b0 : decide (x6_1 < (x5_1.length : Int)) = true := dT c9
      clear c9
      by_cases c10 : 0 ≤ x6_1
      ·rw [if_pos c10] at H
       have c10b0 : decide (0 ≤ x6_1) = true := dT c10
       clear c10
       obtain ⟨y168, hy168⟩ : ∃ y_ : List Int, y_ = (x5_1.set (x6_1 : Int).toNat (-1)) := ⟨_, rfl⟩
       replace H : (dr5_dists.l0 k1 a1 y168 (wrap64 (x6_1 + 1)) l0_0 l0_1 a0_2 a0_3 a0_4 a0_5 a0_6 a0_7 a0_8 a0_9 a0_10 a0_11 a0_12) = some r := by first | (rw [hy168]; with_reducible exact H) | (have H2_ := (Option.bind_some _ _).symm.trans H; rw [hy168]; with_reducible exact H2_) | (have H2_ := (Option.bind_some _ _).symm.trans H; with_reducible exact H2_) | with_reducible exact H | (rw [hy168]; exact H) | exact H
       have Ny168 := am hy168
       clear hy168
       have H' := am H
       clear H
       obtain ⟨Ao12, co12, eo12⟩ := Kd.R_slice HO_5.out
       subst eo12
       have p11 : 0 ≤ (x6_1 : Int) := oT asm
       have q11 : (x6_1 : Int) < ((x5_1.length : Int) : Int) := oT asm
       obtain ⟨go11, co11, eo11, gb11, gl11, cl11, HG11⟩ := Kd.R_form HO_5.out (by omega)
       (first | cases eo11 | (injection eo11 with ea_ en_ ec_; (first | subst ea_ | (injection ea_ with ea_; subst ea_)); subst ec_; clear en_))
       have GB11 := am gb11
       have GG11 := am HG11
       clear gb11 gl11 HG11
       obtain ⟨hx11_0, hf11_0⟩ := Kd.R_celln 0 HO_5.out (x6_1 : Int) p11 q11
       replace p11 := eq_true p11
       replace q11 := eq_true q11
       have HP13 := Kd.R_putg HO_5.out (x6_1 : Int) (-1)
       go_wp2_with (first | ((with_reducible refine gate_store (t := 3) (p := 22) rfl ?_); refine store_event (t := 3) (p := 22) (v := ?vo_w14) (w1 := (wr.setCell ⟨go11, (x6_1 : Int).toNat, none⟩ (.int .i64 (-1)))) ?hg ?ho ?hn ?hr ?_; (case ho => rfl); (case hg => rfl); (case hn => rfl); (case hr => first | (go_simp; done) | (go_simp; rfl)); intro w14 hw; have hg : wr.grownBy w14 (some go11) := (by rw [hw]; exact HP13.2); have hp_ : Kd.R (Kd.int .i64) 3 w14 w.heap.size (fun _ => True) (.slice (some ⟨go11, 0, none⟩) x5_1.length co12) y168 := (by rw [hw, Ny168.out]; exact HP13.1); clear HP13; have n0_ := am (hp_); have n1_ := am (blk_grown (bk BK164) hg (Kd.R_ne HO_5.out BK164.out (by decide))); have n2_ := am ((by rw [hw]; exact below_set (HB.out) GB11.out : Below w.heap.size w w14)); clear HO_5; clear BK164; clear HB; have HO_5 := n0_; have BK164 := n1_; have HB := n2_; clear n0_ n1_ n2_; clear hg hw hp_))
       go_roundg k1
       case measure => have := HK1.out; omega
       case rel => exact ⟨(y168), (wrap64 (x6_1 + 1)), bx, H', ⟨by have := HK1.out; omega⟩, ⟨kr HO_5.out⟩, ⟨bk BK164⟩, ⟨bl1 GE164⟩⟩
      ·rw [if_neg c10] at H
       exact absurd H (by simp)
     ·rw [if_neg c9] at H
      have c9b0 : decide (x6_1 < (x5_1.length : Int)) = false := dF c9
      clear c9
      by_cases c15 : 0 ≤ a1
      ·rw [if_pos c15] at H
       have c15b0 : decide (0 ≤ a1) = true := dT c15
       clear c15
       by_cases c16 : a1 < (x5_1.length : Int)
       ·rw [if_pos c16] at H
        have c16b0 : decide (a1 < (x5_1.length : Int)) = true := dT c16
        clear c16
        obtain ⟨y169, hy169⟩ : ∃ y_ : List Int, y_ = (x5_1.set (a1 : Int).toNat 0) := ⟨_, rfl⟩
        replace H : (dr5_dists.l1 k1 y169 0 l0_0 l0_1 a0_2 a0_3 a0_4 a0_5 a0_6 a0_7 a0_8 a0_9 a0_10 a0_11 a0_12) = some r := by first | (rw [hy169]; with_reducible exact H) | (have H2_ := (Option.bind_some _ _).symm.trans H; rw [hy169]; with_reducible exact H2_) | (have H2_ := (Option.bind_some _ _).symm.trans H; with_reducible exact H2_) | with_reducible exact H | (rw [hy169]; exact H) | exact H
        have Ny169 := am hy169
        clear hy169
        have H' := am H
        clear H
        obtain ⟨Ao18, co18, eo18⟩ := Kd.R_slice HO_5.out
        subst eo18
        have p17 : 0 ≤ (a1 : Int) := oT asm
        have q17 : (a1 : Int) < ((x5_1.length : Int) : Int) := oT asm
        obtain ⟨go17, co17, eo17, gb17, gl17, cl17, HG17⟩ := Kd.R_form HO_5.out (by omega)
        (first | cases eo17 | (injection eo17 with ea_ en_ ec_; (first | subst ea_ | (injection ea_ with ea_; subst ea_)); subst ec_; clear en_))
        have GB17 := am gb17
        have GG17 := am HG17
        clear gb17 gl17 HG17
        obtain ⟨hx17_0, hf17_0⟩ := Kd.R_celln 0 HO_5.out (a1 : Int) p17 q17
        replace p17 := eq_true p17
        replace q17 := eq_true q17
        have HP19 := Kd.R_putg HO_5.out (a1 : Int) 0
        go_wp2_with (first | ((with_reducible refine gate_store (t := 3) (p := 25) rfl ?_); refine store_event (t := 3) (p := 25) (v := ?vo_w20) (w1 := (wr.setCell ⟨go17, (a1 : Int).toNat, none⟩ (.int .i64 0))) ?hg ?ho ?hn ?hr ?_; (case ho => rfl); (case hg => rfl); (case hn => rfl); (case hr => first | (go_simp; done) | (go_simp; rfl)); intro w20 hw; have hg : wr.grownBy w20 (some go17) := (by rw [hw]; exact HP19.2); have hp_ : Kd.R (Kd.int .i64) 3 w20 w.heap.size (fun _ => True) (.slice (some ⟨go17, 0, none⟩) x5_1.length co18) y169 := (by rw [hw, Ny169.out]; exact HP19.1); clear HP19; have n0_ := am (hp_); have n1_ := am (blk_grown (bk BK164) hg (Kd.R_ne HO_5.out BK164.out (by decide))); have n2_ := am ((by rw [hw]; exact below_set (HB.out) GB17.out : Below w.heap.size w w20)); clear HO_5; clear BK164; clear HB; have HO_5 := n0_; have BK164 := n1_; have HB := n2_; clear n0_ n1_ n2_; clear hg hw hp_))
        go_loopg [7] k1 (fun kq v7 w' => ∃ (x5_2 : List Int) (x7_2 : Int), v7 = .int .i64 x7_2 ∧ Aside0 (dr5_dists.l1 kq x5_2 x7_2 l0_0 l0_1 a0_2 a0_3 a0_4 a0_5 a0_6 a0_7 a0_8 a0_9 a0_10 a0_11 a0_12 = some r) ∧ Aside0 (kq ≤ k1) ∧ Aside0 (Kd.R (Kd.int .i64) 3 w' w.heap.size (fun _ => True) (.slice (some ⟨go17, 0, none⟩) x5_1.length co18) x5_2) ∧ Aside0 (w'.heap[gb164]? = some (.cells #[(.slice A0_0 l0_0.length c0_0), (.slice A0_1 l0_1.length c0_1), .int .i64 a0_2, .int .i64 a0_3, .int .i64 a0_4, .int .i64 a0_5, .int .i64 a0_6, .int .i64 a0_7, .int .i64 a0_8, .int .i64 a0_9, .int .i64 a0_10, .int .i64 a0_11, .int .i64 a0_12] 25 (0, 0))) ∧ Aside0 (Below w.heap.size w w'))
        case atStart => exact ⟨(y169), (0), bx, H', ⟨Nat.le_refl _⟩, ⟨kr HO_5.out⟩, ⟨bk BK164⟩, ⟨bl1 GE164⟩⟩
        case round =>
         clear H'
         try clear c1
         try clear p1
         try clear q1
         try clear hx1
         try clear p2
         try clear c3
         try clear c3b0
         try clear c3b1
         try clear c4
         try clear c4b0
         try clear c4b1
         try clear p6
         try clear c9
         try clear c9b0
         try clear c10
         try clear c10b0
         try clear p11
         try clear q11
         try clear hx11
         try clear hf11
         try clear c15
         try clear c15b0
         try clear c16
         try clear c16b0
         try clear p17
         try clear q17
         try clear hx17
         try clear hf17
         try clear c18
         try clear hcz6_0 hcz6_1 hcz6_10 hcz6_11 hcz6_12 hcz6_2 hcz6_3 hcz6_4 hcz6_5 hcz6_6 hcz6_7 hcz6_8 hcz6_9
         try clear hfz6_0 hfz6_1 hfz6_10 hfz6_11 hfz6_12 hfz6_2 hfz6_3 hfz6_4 hfz6_5 hfz6_6 hfz6_7 hfz6_8 hfz6_9
         try clear hx11_0
         try clear hx17_0
         try clear p11
         try clear p17
         try clear p2
         try clear q11
         try clear q17
         obtain ⟨x5_2, x7_2, rfl, HA, HK2, HO_5, BK164, HB⟩ := hrel
         have hl5_2 := (Kd.R_reads' HO_5.out).1
         rw [hl5_2] at HO_5
         (try simp only [hl5_2])
         (try simp only [hl5_2] at BK164)
         cases gk with
         | zero => exact absurd HA.out (by simp [dr5_dists.l1])
         | succ k2 =>
          have H := HA.out
          clear HA
          simp only [dr5_dists.l1] at H
          by_cases c21 : x7_2 < (x5_2.length : Int)
          ·rw [if_pos c21] at H
           have c21b0 : decide (x7_2 < (x5_2.length : Int)) = true := dT c21
           clear c21
           have H' := am H
           clear H
           go_wp2
           go_loopg [8] k2 (fun kq v8 w' => ∃ (x5_3 : List Int) (x8_3 : Int), v8 = .int .i64 x8_3 ∧ Aside0 (dr5_dists.l2 kq x5_3 x7_2 x8_3 l0_0 l0_1 a0_2 a0_3 a0_4 a0_5 a0_6 a0_7 a0_8 a0_9 a0_10 a0_11 a0_12 = some r) ∧ Aside0 (kq ≤ k2) ∧ Aside0 (Kd.R (Kd.int .i64) 3 w' w.heap.size (fun _ => True) (.slice (some ⟨go17, 0, none⟩) x5_2.length co18) x5_3) ∧ Aside0 (w'.heap[gb164]? = some (.cells #[(.slice A0_0 l0_0.length c0_0), (.slice A0_1 l0_1.length c0_1), .int .i64 a0_2, .int .i64 a0_3, .int .i64 a0_4, .int .i64 a0_5, .int .i64 a0_6, .int .i64 a0_7, .int .i64 a0_8, .int .i64 a0_9, .int .i64 a0_10, .int .i64 a0_11, .int .i64 a0_12] 25 (0, 0))) ∧ Aside0 (Below w.heap.size w w'))
           case atStart => exact ⟨(x5_2), (0), bx, H', ⟨Nat.le_refl _⟩, ⟨by (try simp only [hl5_2]); (with_reducible repeat (first | apply Kd.R_alloc | apply Kd.R_drewN | apply Kd.R_drew)); exact HO_5.out⟩, ⟨by (try simp only [hl5_2]); exact bk BK164⟩, ⟨bl1 GE164⟩⟩
           case round =>
            clear H'
            try clear c1
            try clear p1
            try clear q1
            try clear hx1
            try clear c2
            try clear p2
            try clear c3
            try clear c3b0
            try clear c3b1
            try clear c4
            try clear c4b0
            try clear c4b1
            try clear p6
            try clear c9
            try clear c9b0
            try clear c10
            try clear c10b0
            try clear p11
            try clear q11
            try clear hx11
            try clear hf11
            try clear c15
            try clear c15b0
            try clear c16
            try clear c16b0
            try clear p17
            try clear q17
            try clear hx17
            try clear hf17
            try clear c18
            try clear c21
            try clear c21b0
            try clear hcz6_0 hcz6_1 hcz6_10 hcz6_11 hcz6_12 hcz6_2 hcz6_3 hcz6_4 hcz6_5 hcz6_6 hcz6_7 hcz6_8 hcz6_9
            try clear hfz6_0 hfz6_1 hfz6_10 hfz6_11 hfz6_12 hfz6_2 hfz6_3 hfz6_4 hfz6_5 hfz6_6 hfz6_7 hfz6_8 hfz6_9
            try clear hx11_0
            try clear hx17_0
            try clear p1
            try clear p11
            try clear p17
            try clear p2
            try clear p6
            try clear q1
            try clear q11
            try clear q17
            obtain ⟨x5_3, x8_3, rfl, HA, HK3, HO_5, BK164, HB⟩ := hrel
            have hl5_3 := (Kd.R_reads' HO_5.out).1
            rw [hl5_3] at HO_5
            (try simp only [hl5_3])
            (try simp only [hl5_3] at BK164)
            cases gk with
            | zero => exact absurd HA.out (by simp [dr5_dists.l2])
            | succ k3 =>
             have H := HA.out
             clear HA
             simp only [dr5_dists.l2] at H
             by_cases c22 : x8_3 < (l0_1.length : Int)
             ·rw [if_pos c22] at H
              have c22b0 : decide (x8_3 < (l0_1.length : Int)) = true := dT c22
              clear c22
              by_cases c23 : 0 ≤ x8_3
              ·rw [if_pos c23] at H
               have c23b0 : decide (0 ≤ x8_3) = true := dT c23
               clear c23
               have HC24 := am H
               clear H
               obtain ⟨hcz25_0, hcz25_1, hcz25_2, hcz25_3, hcz25_4, hcz25_5, hcz25_6, hcz25_7, hcz25_8, hcz25_9, hcz25_10, hcz25_11, hcz25_12⟩ := cellsK13 BK164.out
               obtain ⟨hfz25_0, hfz25_1, hfz25_2, hfz25_3, hfz25_4, hfz25_5, hfz25_6, hfz25_7, hfz25_8, hfz25_9, hfz25_10, hfz25_11, hfz25_12⟩ := frozK13 BK164.out
               have p170 : 0 ≤ (x8_3 : Int) := oT asm
               have q170 : x8_3 < (l0_1.length : Int) := oT asm
               obtain ⟨ad170, e170, hx170_0, hx170_1, hx170_2, hx170_3, hx170_4, hx170_5⟩ := at_T39 HR0_1.out x8_3 p170 q170
               cases e170
               replace hx170_0 := hxk HB hx170_0
               replace hx170_1 := hxk HB hx170_1
               replace hx170_2 := hxk HB hx170_2
               replace hx170_3 := hxk HB hx170_3
               replace hx170_4 := hxk HB hx170_4
               replace hx170_5 := hxk HB hx170_5
               replace p170 := eq_true p170
               replace q170 := eq_true q170
               go_upto_region 14 with (first | ((with_reducible refine gate_dst (N := 9) rfl ?_); refine bxe 9 #[.int .i64 0, .int .i64 0, .int .i64 0, .int .i64 0, .int .i64 0, .int .i64 0] 39 ?_; intro gb171 hg w26 hbox hb; have n0_ := am (Kd.R_below (kr HO_5.out) hb); have n1_ := am (blk_below (bk BK164) hb); have n2_ := am (below_step (bl1 GE164) hb); have n3_ := am (hbox); have n4_ := am (gw1 hg GE164); have n5_ := am (gw1 hg GE164); have n6_ := am (nl hg BK164); have n7_ := am (nr hg BK164); clear HO_5; clear BK164; clear HB; have HO_5 := n0_; have BK164 := n1_; have HB := n2_; have BK171 := n3_; have GW171 := n4_; have GE171 := n5_; have NB164_171 := n6_; have NB171_164 := n7_; clear n0_ n1_ n2_ n3_ n4_ n5_ n6_ n7_; clear hb hbox hg; have hnb27 := NB171_164.out; have hnc27 := NB164_171.out; obtain ⟨hcz28_0, hcz28_1, hcz28_2, hcz28_3, hcz28_4, hcz28_5⟩ := cellsK6 BK171.out; obtain ⟨hfz28_0, hfz28_1, hfz28_2, hfz28_3, hfz28_4, hfz28_5⟩ := frozK6 BK171.out))
               (try simp only [Act.put, sAa, sBb, sCc])
               go_cut [58] (fun v58 wc => ∃ (kq : Nat) (x58_23 : Bool), v58 = .bool x58_23 ∧ Aside0 (dr5_dists.j3 kq x5_3 x7_2 x8_3 x58_23 l0_0 l0_1 a0_2 a0_3 a0_4 a0_5 a0_6 a0_7 a0_8 a0_9 a0_10 a0_11 a0_12 ((rd_T39 l0_1 x8_3).f0) ((rd_T39 l0_1 x8_3).f1) ((rd_T39 l0_1 x8_3).f2.f0) ((rd_T39 l0_1 x8_3).f2.f1) ((rd_T39 l0_1 x8_3).f3.f0) ((rd_T39 l0_1 x8_3).f3.f1) = some r) ∧ Aside0 (kq ≤ k3) ∧ Aside0 (Kd.R (Kd.int .i64) 3 wc w.heap.size (fun _ => True) (.slice (some ⟨go17, 0, none⟩) x5_3.length co18) x5_3) ∧ Aside0 (wc.heap[gb164]? = some (.cells #[(.slice A0_0 l0_0.length c0_0), (.slice (some ad170) l0_1.length c0_1), .int .i64 a0_2, .int .i64 a0_3, .int .i64 a0_4, .int .i64 a0_5, .int .i64 a0_6, .int .i64 a0_7, .int .i64 a0_8, .int .i64 a0_9, .int .i64 a0_10, .int .i64 a0_11, .int .i64 a0_12] 25 (0, 0))) ∧ Aside0 (wc.heap[gb171]? = some (.cells #[.int .i64 ((rd_T39 l0_1 x8_3).f0), .int .i64 ((rd_T39 l0_1 x8_3).f1), .int .i64 ((rd_T39 l0_1 x8_3).f2.f0), .int .i64 ((rd_T39 l0_1 x8_3).f2.f1), .int .i64 ((rd_T39 l0_1 x8_3).f3.f0), .int .i64 ((rd_T39 l0_1 x8_3).f3.f1)] 39 (0, 0))) ∧ Aside0 (Below w.heap.size w wc))
               case first =>
                have H := HC24.out
                clear HC24
                by_cases c29 : 0 ≤ ((rd_T39 l0_1 x8_3).f0)
                ·rw [if_pos c29] at H
                 have c29b0 : decide (0 ≤ ((rd_T39 l0_1 x8_3).f0)) = true := dT c29
                 clear c29
                 (first | rw [c29b0] | (simp only [i64_w, i32_w]; rw [c29b0]) | skip)
                 by_cases c30 : ((rd_T39 l0_1 x8_3).f0) < (x5_3.length : Int)
                 ·rw [if_pos c30] at H
                  have c30b0 : decide (((rd_T39 l0_1 x8_3).f0) < (x5_3.length : Int)) = true := dT c30
                  clear c30
                  by_cases c31 : (rd x5_3 ((rd_T39 l0_1 x8_3).f0)) = x7_2
                  ·rw [if_pos c31] at H
                   have c31b0 : ((rd x5_3 ((rd_T39 l0_1 x8_3).f0)) == x7_2) = true := beq_iff_eq.mpr c31
                   have c31b1 : ((rd x5_3 ((rd_T39 l0_1 x8_3).f0)) != x7_2) = false := bne_eq_false_iff_eq.mpr c31
                   clear c31
                   by_cases c32 : 0 ≤ ((rd_T39 l0_1 x8_3).f1)
                   ·rw [if_pos c32] at H
                    have c32b0 : decide (0 ≤ ((rd_T39 l0_1 x8_3).f1)) = true := dT c32
                    clear c32
                    by_cases c33 : ((rd_T39 l0_1 x8_3).f1) < (x5_3.length : Int)
                    ·rw [if_pos c33] at H
                     have c33b0 : decide (((rd_T39 l0_1 x8_3).f1) < (x5_3.length : Int)) = true := dT c33
                     clear c33
                     have H' := am H
                     clear H
                     have hnb34 := NB171_164.out
                     have hnc34 := NB164_171.out
                     obtain ⟨hcz35_0, hcz35_1, hcz35_2, hcz35_3, hcz35_4, hcz35_5⟩ := cellsK6 BK171.out
                     obtain ⟨hfz35_0, hfz35_1, hfz35_2, hfz35_3, hfz35_4, hfz35_5⟩ := frozK6 BK171.out
                     have p172 : 0 ≤ (((rd_T39 l0_1 x8_3).f0) : Int) := oT asm
                     have q172 : ((rd_T39 l0_1 x8_3).f0) < (x5_3.length : Int) := oT asm
                     obtain ⟨ad172, e172, hx172_0⟩ := Kd.at_int (Kd.R_reads' HO_5.out).2.2 ((rd_T39 l0_1 x8_3).f0) p172 q172
                     obtain rfl : (⟨go17, 0, none⟩ : Addr) = ad172 := (by injection e172)
                     (first | simp only [add_plain] at hx172_0 | simp only [add_at] at hx172_0 | simp only [Addr.add, Nat.zero_add] at hx172_0 | skip)
                     have hn172_0 : (⟨go17, 0, none⟩ : Addr).block ≠ gb171 := Kd.own_blk (Kd.R_ne HO_5.out BK171.out (by decide))
                     have hn172_1 : (⟨go17, 0, none⟩ : Addr).block ≠ gb171 := Kd.own_blk (Kd.R_ne HO_5.out BK171.out (by decide))
                     have hn172_2 : (⟨go17, 0, none⟩ : Addr).block ≠ gb171 := Kd.own_blk (Kd.R_ne HO_5.out BK171.out (by decide))
                     have hn172_3 : (⟨go17, 0, none⟩ : Addr).block ≠ gb171 := Kd.own_blk (Kd.R_ne HO_5.out BK171.out (by decide))
                     have hn172_4 : (⟨go17, 0, none⟩ : Addr).block ≠ gb171 := Kd.own_blk (Kd.R_ne HO_5.out BK171.out (by decide))
                     have hn172_5 : (⟨go17, 0, none⟩ : Addr).block ≠ gb171 := Kd.own_blk (Kd.R_ne HO_5.out BK171.out (by decide))
                     replace hx172_0 := (cell_far (p := ⟨gb171, 0, none⟩) (fn_ hn172_0) (.int .i64 ((rd_T39 l0_1 x8_3).f0))).trans hx172_0
                     replace hx172_0 := (cell_far (p := ⟨gb171, 1, none⟩) (fn_ hn172_1) (.int .i64 ((rd_T39 l0_1 x8_3).f1))).trans hx172_0
                     replace hx172_0 := (cell_far (p := ⟨gb171, 2, none⟩) (fn_ hn172_2) (.int .i64 ((rd_T39 l0_1 x8_3).f2.f0))).trans hx172_0
                     replace hx172_0 := (cell_far (p := ⟨gb171, 3, none⟩) (fn_ hn172_3) (.int .i64 ((rd_T39 l0_1 x8_3).f2.f1))).trans hx172_0
                     replace hx172_0 := (cell_far (p := ⟨gb171, 4, none⟩) (fn_ hn172_4) (.int .i64 ((rd_T39 l0_1 x8_3).f3.f0))).trans hx172_0
                     replace hx172_0 := (cell_far (p := ⟨gb171, 5, none⟩) (fn_ hn172_5) (.int .i64 ((rd_T39 l0_1 x8_3).f3.f1))).trans hx172_0
                     clear hn172_0
                     clear hn172_1
                     clear hn172_2
                     clear hn172_3
                     clear hn172_4
                     clear hn172_5
                     replace p172 := eq_true p172
                     replace q172 := eq_true q172
                     have p173 : 0 ≤ (((rd_T39 l0_1 x8_3).f1) : Int) := oT asm
                     have q173 : ((rd_T39 l0_1 x8_3).f1) < (x5_3.length : Int) := oT asm
                     obtain ⟨ad173, e173, hx173_0⟩ := Kd.at_int (Kd.R_reads' HO_5.out).2.2 ((rd_T39 l0_1 x8_3).f1) p173 q173
                     obtain rfl : (⟨go17, 0, none⟩ : Addr) = ad173 := (by injection e173)
                     (first | simp only [add_plain] at hx173_0 | simp only [add_at] at hx173_0 | simp only [Addr.add, Nat.zero_add] at hx173_0 | skip)
                     have hn173_0 : (⟨go17, 0, none⟩ : Addr).block ≠ gb171 := Kd.own_blk (Kd.R_ne HO_5.out BK171.out (by decide))
                     have hn173_1 : (⟨go17, 0, none⟩ : Addr).block ≠ gb171 := Kd.own_blk (Kd.R_ne HO_5.out BK171.out (by decide))
                     have hn173_2 : (⟨go17, 0, none⟩ : Addr).block ≠ gb171 := Kd.own_blk (Kd.R_ne HO_5.out BK171.out (by decide))
                     have hn173_3 : (⟨go17, 0, none⟩ : Addr).block ≠ gb171 := Kd.own_blk (Kd.R_ne HO_5.out BK171.out (by decide))
                     have hn173_4 : (⟨go17, 0, none⟩ : Addr).block ≠ gb171 := Kd.own_blk (Kd.R_ne HO_5.out BK171.out (by decide))
                     have hn173_5 : (⟨go17, 0, none⟩ : Addr).block ≠ gb171 := Kd.own_blk (Kd.R_ne HO_5.out BK171.out (by decide))
                     replace hx173_0 := (cell_far (p := ⟨gb171, 0, none⟩) (fn_ hn173_0) (.int .i64 ((rd_T39 l0_1 x8_3).f0))).trans hx173_0
                     replace hx173_0 := (cell_far (p := ⟨gb171, 1, none⟩) (fn_ hn173_1) (.int .i64 ((rd_T39 l0_1 x8_3).f1))).trans hx173_0
                     replace hx173_0 := (cell_far (p := ⟨gb171, 2, none⟩) (fn_ hn173_2) (.int .i64 ((rd_T39 l0_1 x8_3).f2.f0))).trans hx173_0
                     replace hx173_0 := (cell_far (p := ⟨gb171, 3, none⟩) (fn_ hn173_3) (.int .i64 ((rd_T39 l0_1 x8_3).f2.f1))).trans hx173_0
                     replace hx173_0 := (cell_far (p := ⟨gb171, 4, none⟩) (fn_ hn173_4) (.int .i64 ((rd_T39 l0_1 x8_3).f3.f0))).trans hx173_0
                     replace hx173_0 := (cell_far (p := ⟨gb171, 5, none⟩) (fn_ hn173_5) (.int .i64 ((rd_T39 l0_1 x8_3).f3.f1))).trans hx173_0
                     clear hn173_0
                     clear hn173_1
                     clear hn173_2
                     clear hn173_3
                     clear hn173_4
                     clear hn173_5
                     replace p173 := eq_true p173
                     replace q173 := eq_true q173
                     go_wp2
                     go_meet
                     case rel => exact ⟨_, (decide ((rd x5_3 ((rd_T39 l0_1 x8_3).f1)) < 0)), bx, H', ⟨by have := HK1.out; have := HK2.out; have := HK3.out; first | omega | exact Nat.le_refl _⟩, ⟨by (try simp only [hl5_2]); (try simp only [hl5_3]); (with_reducible repeat (first | apply Kd.R_alloc | apply Kd.R_drewN | apply Kd.R_drew)); exact Kd.R_mono (Kd.R_far (p := ⟨gb171, 5, none⟩) (Kd.R_far (p := ⟨gb171, 4, none⟩) (Kd.R_far (p := ⟨gb171, 3, none⟩) (Kd.R_far (p := ⟨gb171, 2, none⟩) (Kd.R_far (p := ⟨gb171, 1, none⟩) (Kd.R_far (p := ⟨gb171, 0, none⟩) (Kd.R_types HO_5.out BK171.out (by decide)) (fun _ hk => hk.2) (.int .i64 ((rd_T39 l0_1 x8_3).f0))) (fun _ hk => hk.2) (.int .i64 ((rd_T39 l0_1 x8_3).f1))) (fun _ hk => hk.2) (.int .i64 ((rd_T39 l0_1 x8_3).f2.f0))) (fun _ hk => hk.2) (.int .i64 ((rd_T39 l0_1 x8_3).f2.f1))) (fun _ hk => hk.2) (.int .i64 ((rd_T39 l0_1 x8_3).f3.f0))) (fun _ hk => hk.2) (.int .i64 ((rd_T39 l0_1 x8_3).f3.f1))) (fun _ hk => trivial)⟩, ⟨by (try simp only [hl5_2]); (try simp only [hl5_3]); (with_reducible repeat (first | refine blk_drewN ?_ _ | refine blk_drew ?_ | refine blk_alloc ?_ _)); refine blk_far ?_ NB164_171.out _; (with_reducible repeat (first | refine blk_drewN ?_ _ | refine blk_drew ?_ | refine blk_alloc ?_ _)); refine blk_far ?_ NB164_171.out _; (with_reducible repeat (first | refine blk_drewN ?_ _ | refine blk_drew ?_ | refine blk_alloc ?_ _)); refine blk_far ?_ NB164_171.out _; (with_reducible repeat (first | refine blk_drewN ?_ _ | refine blk_drew ?_ | refine blk_alloc ?_ _)); refine blk_far ?_ NB164_171.out _; (with_reducible repeat (first | refine blk_drewN ?_ _ | refine blk_drew ?_ | refine blk_alloc ?_ _)); refine blk_far ?_ NB164_171.out _; (with_reducible repeat (first | refine blk_drewN ?_ _ | refine blk_drew ?_ | refine blk_alloc ?_ _)); refine blk_far ?_ NB164_171.out _; exact bk BK164⟩, ⟨by (try simp only [hl5_2]); (try simp only [hl5_3]); (with_reducible repeat (first | refine blk_drewN ?_ _ | refine blk_drew ?_ | refine blk_alloc ?_ _)); refine blk_put (cs := #[.int .i64 ((rd_T39 l0_1 x8_3).f0), .int .i64 ((rd_T39 l0_1 x8_3).f1), .int .i64 ((rd_T39 l0_1 x8_3).f2.f0), .int .i64 ((rd_T39 l0_1 x8_3).f2.f1), .int .i64 ((rd_T39 l0_1 x8_3).f3.f0), .int .i64 0]) ?_ 5 _ rfl; (with_reducible repeat (first | refine blk_drewN ?_ _ | refine blk_drew ?_ | refine blk_alloc ?_ _)); refine blk_put (cs := #[.int .i64 ((rd_T39 l0_1 x8_3).f0), .int .i64 ((rd_T39 l0_1 x8_3).f1), .int .i64 ((rd_T39 l0_1 x8_3).f2.f0), .int .i64 ((rd_T39 l0_1 x8_3).f2.f1), .int .i64 0, .int .i64 0]) ?_ 4 _ rfl; (with_reducible repeat (first | refine blk_drewN ?_ _ | refine blk_drew ?_ | refine blk_alloc ?_ _)); refine blk_put (cs := #[.int .i64 ((rd_T39 l0_1 x8_3).f0), .int .i64 ((rd_T39 l0_1 x8_3).f1), .int .i64 ((rd_T39 l0_1 x8_3).f2.f0), .int .i64 0, .int .i64 0, .int .i64 0]) ?_ 3 _ rfl; (with_reducible repeat (first | refine blk_drewN ?_ _ | refine blk_drew ?_ | refine blk_alloc ?_ _)); refine blk_put (cs := #[.int .i64 ((rd_T39 l0_1 x8_3).f0), .int .i64 ((rd_T39 l0_1 x8_3).f1), .int .i64 0, .int .i64 0, .int .i64 0, .int .i64 0]) ?_ 2 _ rfl; (with_reducible repeat (first | refine blk_drewN ?_ _ | refine blk_drew ?_ | refine blk_alloc ?_ _)); refine blk_put (cs := #[.int .i64 ((rd_T39 l0_1 x8_3).f0), .int .i64 0, .int .i64 0, .int .i64 0, .int .i64 0, .int .i64 0]) ?_ 1 _ rfl; (with_reducible repeat (first | refine blk_drewN ?_ _ | refine blk_drew ?_ | refine blk_alloc ?_ _)); refine blk_put (cs := #[.int .i64 0, .int .i64 0, .int .i64 0, .int .i64 0, .int .i64 0, .int .i64 0]) ?_ 0 _ rfl; exact bk BK171⟩, ⟨bl2 GE164 GE171⟩⟩
                    ·rw [if_neg c33] at H
                     exact absurd H (by simp)
                   ·rw [if_neg c32] at H
                    exact absurd H (by simp)
                  ·rw [if_neg c31] at H
                   have c31b0 : ((rd x5_3 ((rd_T39 l0_1 x8_3).f0)) == x7_2) = false := beq_eq_false_iff_ne.mpr c31
                   have c31b1 : ((rd x5_3 ((rd_T39 l0_1 x8_3).f0)) != x7_2) = true := bne_iff_ne.mpr c31
                   have H' := am H
                   clear H
                   have hnb36 := NB171_164.out
                   have hnc36 := NB164_171.out
                   obtain ⟨hcz37_0, hcz37_1, hcz37_2, hcz37_3, hcz37_4, hcz37_5⟩ := cellsK6 BK171.out
                   obtain ⟨hfz37_0, hfz37_1, hfz37_2, hfz37_3, hfz37_4, hfz37_5⟩ := frozK6 BK171.out
                   have p172 : 0 ≤ (((rd_T39 l0_1 x8_3).f0) : Int) := oT asm
                   have q172 : ((rd_T39 l0_1 x8_3).f0) < (x5_3.length : Int) := oT asm
                   obtain ⟨ad172, e172, hx172_0⟩ := Kd.at_int (Kd.R_reads' HO_5.out).2.2 ((rd_T39 l0_1 x8_3).f0) p172 q172
                   obtain rfl : (⟨go17, 0, none⟩ : Addr) = ad172 := (by injection e172)
                   (first | simp only [add_plain] at hx172_0 | simp only [add_at] at hx172_0 | simp only [Addr.add, Nat.zero_add] at hx172_0 | skip)
                   have hn172_0 : (⟨go17, 0, none⟩ : Addr).block ≠ gb171 := Kd.own_blk (Kd.R_ne HO_5.out BK171.out (by decide))
                   have hn172_1 : (⟨go17, 0, none⟩ : Addr).block ≠ gb171 := Kd.own_blk (Kd.R_ne HO_5.out BK171.out (by decide))
                   have hn172_2 : (⟨go17, 0, none⟩ : Addr).block ≠ gb171 := Kd.own_blk (Kd.R_ne HO_5.out BK171.out (by decide))
                   have hn172_3 : (⟨go17, 0, none⟩ : Addr).block ≠ gb171 := Kd.own_blk (Kd.R_ne HO_5.out BK171.out (by decide))
                   have hn172_4 : (⟨go17, 0, none⟩ : Addr).block ≠ gb171 := Kd.own_blk (Kd.R_ne HO_5.out BK171.out (by decide))
                   have hn172_5 : (⟨go17, 0, none⟩ : Addr).block ≠ gb171 := Kd.own_blk (Kd.R_ne HO_5.out BK171.out (by decide))
                   replace hx172_0 := (cell_far (p := ⟨gb171, 0, none⟩) (fn_ hn172_0) (.int .i64 ((rd_T39 l0_1 x8_3).f0))).trans hx172_0
                   replace hx172_0 := (cell_far (p := ⟨gb171, 1, none⟩) (fn_ hn172_1) (.int .i64 ((rd_T39 l0_1 x8_3).f1))).trans hx172_0
                   replace hx172_0 := (cell_far (p := ⟨gb171, 2, none⟩) (fn_ hn172_2) (.int .i64 ((rd_T39 l0_1 x8_3).f2.f0))).trans hx172_0
                   replace hx172_0 := (cell_far (p := ⟨gb171, 3, none⟩) (fn_ hn172_3) (.int .i64 ((rd_T39 l0_1 x8_3).f2.f1))).trans hx172_0
                   replace hx172_0 := (cell_far (p := ⟨gb171, 4, none⟩) (fn_ hn172_4) (.int .i64 ((rd_T39 l0_1 x8_3).f3.f0))).trans hx172_0
                   replace hx172_0 := (cell_far (p := ⟨gb171, 5, none⟩) (fn_ hn172_5) (.int .i64 ((rd_T39 l0_1 x8_3).f3.f1))).trans hx172_0
                   clear hn172_0
                   clear hn172_1
                   clear hn172_2
                   clear hn172_3
                   clear hn172_4
                   clear hn172_5
                   replace p172 := eq_true p172
                   replace q172 := eq_true q172
                   go_wp2
                   go_meet
                   case rel => exact ⟨_, (false), bx, H', ⟨by have := HK1.out; have := HK2.out; have := HK3.out; first | omega | exact Nat.le_refl _⟩, ⟨by (try simp only [hl5_2]); (try simp only [hl5_3]); (with_reducible repeat (first | apply Kd.R_alloc | apply Kd.R_drewN | apply Kd.R_drew)); exact Kd.R_mono (Kd.R_far (p := ⟨gb171, 5, none⟩) (Kd.R_far (p := ⟨gb171, 4, none⟩) (Kd.R_far (p := ⟨gb171, 3, none⟩) (Kd.R_far (p := ⟨gb171, 2, none⟩) (Kd.R_far (p := ⟨gb171, 1, none⟩) (Kd.R_far (p := ⟨gb171, 0, none⟩) (Kd.R_types HO_5.out BK171.out (by decide)) (fun _ hk => hk.2) (.int .i64 ((rd_T39 l0_1 x8_3).f0))) (fun _ hk => hk.2) (.int .i64 ((rd_T39 l0_1 x8_3).f1))) (fun _ hk => hk.2) (.int .i64 ((rd_T39 l0_1 x8_3).f2.f0))) (fun _ hk => hk.2) (.int .i64 ((rd_T39 l0_1 x8_3).f2.f1))) (fun _ hk => hk.2) (.int .i64 ((rd_T39 l0_1 x8_3).f3.f0))) (fun _ hk => hk.2) (.int .i64 ((rd_T39 l0_1 x8_3).f3.f1))) (fun _ hk => trivial)⟩, ⟨by (try simp only [hl5_2]); (try simp only [hl5_3]); (with_reducible repeat (first | refine blk_drewN ?_ _ | refine blk_drew ?_ | refine blk_alloc ?_ _)); refine blk_far ?_ NB164_171.out _; (with_reducible repeat (first | refine blk_drewN ?_ _ | refine blk_drew ?_ | refine blk_alloc ?_ _)); refine blk_far ?_ NB164_171.out _; (with_reducible repeat (first | refine blk_drewN ?_ _ | refine blk_drew ?_ | refine blk_alloc ?_ _)); refine blk_far ?_ NB164_171.out _; (with_reducible repeat (first | refine blk_drewN ?_ _ | refine blk_drew ?_ | refine blk_alloc ?_ _)); refine blk_far ?_ NB164_171.out _; (with_reducible repeat (first | refine blk_drewN ?_ _ | refine blk_drew ?_ | refine blk_alloc ?_ _)); refine blk_far ?_ NB164_171.out _; (with_reducible repeat (first | refine blk_drewN ?_ _ | refine blk_drew ?_ | refine blk_alloc ?_ _)); refine blk_far ?_ NB164_171.out _; exact bk BK164⟩, ⟨by (try simp only [hl5_2]); (try simp only [hl5_3]); (with_reducible repeat (first | refine blk_drewN ?_ _ | refine blk_drew ?_ | refine blk_alloc ?_ _)); refine blk_put (cs := #[.int .i64 ((rd_T39 l0_1 x8_3).f0), .int .i64 ((rd_T39 l0_1 x8_3).f1), .int .i64 ((rd_T39 l0_1 x8_3).f2.f0), .int .i64 ((rd_T39 l0_1 x8_3).f2.f1), .int .i64 ((rd_T39 l0_1 x8_3).f3.f0), .int .i64 0]) ?_ 5 _ rfl; (with_reducible repeat (first | refine blk_drewN ?_ _ | refine blk_drew ?_ | refine blk_alloc ?_ _)); refine blk_put (cs := #[.int .i64 ((rd_T39 l0_1 x8_3).f0), .int .i64 ((rd_T39 l0_1 x8_3).f1), .int .i64 ((rd_T39 l0_1 x8_3).f2.f0), .int .i64 ((rd_T39 l0_1 x8_3).f2.f1), .int .i64 0, .int .i64 0]) ?_ 4 _ rfl; (with_reducible repeat (first | refine blk_drewN ?_ _ | refine blk_drew ?_ | refine blk_alloc ?_ _)); refine blk_put (cs := #[.int .i64 ((rd_T39 l0_1 x8_3).f0), .int .i64 ((rd_T39 l0_1 x8_3).f1), .int .i64 ((rd_T39 l0_1 x8_3).f2.f0), .int .i64 0, .int .i64 0, .int .i64 0]) ?_ 3 _ rfl; (with_reducible repeat (first | refine blk_drewN ?_ _ | refine blk_drew ?_ | refine blk_alloc ?_ _)); refine blk_put (cs := #[.int .i64 ((rd_T39 l0_1 x8_3).f0), .int .i64 ((rd_T39 l0_1 x8_3).f1), .int .i64 0, .int .i64 0, .int .i64 0, .int .i64 0]) ?_ 2 _ rfl; (with_reducible repeat (first | refine blk_drewN ?_ _ | refine blk_drew ?_ | refine blk_alloc ?_ _)); refine blk_put (cs := #[.int .i64 ((rd_T39 l0_1 x8_3).f0), .int .i64 0, .int .i64 0, .int .i64 0, .int .i64 0, .int .i64 0]) ?_ 1 _ rfl; (with_reducible repeat (first | refine blk_drewN ?_ _ | refine blk_drew ?_ | refine blk_alloc ?_ _)); refine blk_put (cs := #[.int .i64 0, .int .i64 0, .int .i64 0, .int .i64 0, .int .i64 0, .int .i64 0]) ?_ 0 _ rfl; exact bk BK171⟩, ⟨bl2 GE164 GE171⟩⟩
                 ·rw [if_neg c30] at H
                  exact absurd H (by simp)
                ·rw [if_neg c29] at H
                 exact absurd H (by simp)
               case rest =>
                clear HC24
                try clear c1
                try clear p1
                try clear q1
                try clear hx1
                try clear c2
                try clear p2
                try clear c3
                try clear c3b0
                try clear c3b1
                try clear c4
                try clear c4b0
                try clear c4b1
                try clear p6
                try clear c9
                try clear c9b0
                try clear c10
                try clear c10b0
                try clear p11
                try clear q11
                try clear hx11
                try clear hf11
                try clear c15
                try clear c15b0
                try clear c16
                try clear c16b0
                try clear p17
                try clear q17
                try clear hx17
                try clear hf17
                try clear c18
                try clear c21
                try clear c21b0
                try clear c22
                try clear c22b0
                try clear c23
                try clear c23b0
                try clear c27
                try clear c29
                try clear c29b0
                try clear c30
                try clear c30b0
                try clear c31
                try clear c31b0
                try clear c31b1
                try clear c32
                try clear c32b0
                try clear c33
                try clear c33b0
                try clear c34
                try clear c36
                try clear hcz25_0 hcz25_1 hcz25_10 hcz25_11 hcz25_12 hcz25_2 hcz25_3 hcz25_4 hcz25_5 hcz25_6 hcz25_7 hcz25_8 hcz25_9
                try clear hcz28_0 hcz28_1 hcz28_2 hcz28_3 hcz28_4 hcz28_5
                try clear hcz35_0 hcz35_1 hcz35_2 hcz35_3 hcz35_4 hcz35_5
                try clear hcz37_0 hcz37_1 hcz37_2 hcz37_3 hcz37_4 hcz37_5
                try clear hcz6_0 hcz6_1 hcz6_10 hcz6_11 hcz6_12 hcz6_2 hcz6_3 hcz6_4 hcz6_5 hcz6_6 hcz6_7 hcz6_8 hcz6_9
                try clear hfz25_0 hfz25_1 hfz25_10 hfz25_11 hfz25_12 hfz25_2 hfz25_3 hfz25_4 hfz25_5 hfz25_6 hfz25_7 hfz25_8 hfz25_9
                try clear hfz28_0 hfz28_1 hfz28_2 hfz28_3 hfz28_4 hfz28_5
                try clear hfz35_0 hfz35_1 hfz35_2 hfz35_3 hfz35_4 hfz35_5
                try clear hfz37_0 hfz37_1 hfz37_2 hfz37_3 hfz37_4 hfz37_5
                try clear hfz6_0 hfz6_1 hfz6_10 hfz6_11 hfz6_12 hfz6_2 hfz6_3 hfz6_4 hfz6_5 hfz6_6 hfz6_7 hfz6_8 hfz6_9
                try clear hx11_0
                try clear hx170_0
                try clear hx170_1
                try clear hx170_2
                try clear hx170_3
                try clear hx170_4
                try clear hx170_5
                try clear hx172_0
                try clear hx173_0
                try clear hx17_0
                try clear p1
                try clear p11
                try clear p17
                try clear p170
                try clear p172
                try clear p173
                try clear p2
                try clear p6
                try clear q1
                try clear q11
                try clear q17
                try clear q170
                try clear q172
                try clear q173
                obtain ⟨kq, x58_23, rfl, HA, HJ23, HO_5, BK164, BK171, HB⟩ := hcut
                cases kq with
                | zero => exact absurd HA.out (by simp [dr5_dists.j3])
                | succ kj23 =>
                 have H := HA.out
                 clear HA
                 simp only [dr5_dists.j3] at H
                 by_cases c38 : x58_23 = true
                 ·subst c38
                  have H1 : (if 0 ≤ ((rd_T39 l0_1 x8_3).f1) then (if ((rd_T39 l0_1 x8_3).f1) < (x5_3.length : Int) then ((some (x5_3.set (((rd_T39 l0_1 x8_3).f1) : Int).toNat (wrap64 (x7_2 + 1)) : List Int)).bind fun y174 => (if (rd y174 ((rd_T39 l0_1 x8_3).f1)) = x7_2 then (if 0 ≤ ((rd_T39 l0_1 x8_3).f0) then (if ((rd_T39 l0_1 x8_3).f0) < (x5_3.length : Int) then (if (rd y174 ((rd_T39 l0_1 x8_3).f0)) < 0 then (dr5_dists.l2 kj23 (y174.set (((rd_T39 l0_1 x8_3).f0) : Int).toNat (wrap64 (x7_2 + 1))) x7_2 (wrap64 (x8_3 + 1)) l0_0 l0_1 a0_2 a0_3 a0_4 a0_5 a0_6 a0_7 a0_8 a0_9 a0_10 a0_11 a0_12) else (dr5_dists.l2 kj23 y174 x7_2 (wrap64 (x8_3 + 1)) l0_0 l0_1 a0_2 a0_3 a0_4 a0_5 a0_6 a0_7 a0_8 a0_9 a0_10 a0_11 a0_12)) else (none)) else (none)) else (dr5_dists.l2 kj23 y174 x7_2 (wrap64 (x8_3 + 1)) l0_0 l0_1 a0_2 a0_3 a0_4 a0_5 a0_6 a0_7 a0_8 a0_9 a0_10 a0_11 a0_12))) else (none)) else (none)) = some r := by rw [if_pos rfl] at H; exact H
                  clear H
                  have H := H1
                  clear H1
                  by_cases c39 : 0 ≤ ((rd_T39 l0_1 x8_3).f1)
                  ·rw [if_pos c39] at H
                   have c39b0 : decide (0 ≤ ((rd_T39 l0_1 x8_3).f1)) = true := dT c39
                   clear c39
                   by_cases c40 : ((rd_T39 l0_1 x8_3).f1) < (x5_3.length : Int)
                   ·rw [if_pos c40] at H
                    have c40b0 : decide (((rd_T39 l0_1 x8_3).f1) < (x5_3.length : Int)) = true := dT c40
                    clear c40
                    obtain ⟨y174, hy174⟩ : ∃ y_ : List Int, y_ = (x5_3.set (((rd_T39 l0_1 x8_3).f1) : Int).toNat (wrap64 (x7_2 + 1))) := ⟨_, rfl⟩
                    replace H : (if (rd y174 ((rd_T39 l0_1 x8_3).f1)) = x7_2 then (if 0 ≤ ((rd_T39 l0_1 x8_3).f0) then (if ((rd_T39 l0_1 x8_3).f0) < (x5_3.length : Int) then (if (rd y174 ((rd_T39 l0_1 x8_3).f0)) < 0 then (dr5_dists.l2 kj23 (y174.set (((rd_T39 l0_1 x8_3).f0) : Int).toNat (wrap64 (x7_2 + 1))) x7_2 (wrap64 (x8_3 + 1)) l0_0 l0_1 a0_2 a0_3 a0_4 a0_5 a0_6 a0_7 a0_8 a0_9 a0_10 a0_11 a0_12) else (dr5_dists.l2 kj23 y174 x7_2 (wrap64 (x8_3 + 1)) l0_0 l0_1 a0_2 a0_3 a0_4 a0_5 a0_6 a0_7 a0_8 a0_9 a0_10 a0_11 a0_12)) else (none)) else (none)) else (dr5_dists.l2 kj23 y174 x7_2 (wrap64 (x8_3 + 1)) l0_0 l0_1 a0_2 a0_3 a0_4 a0_5 a0_6 a0_7 a0_8 a0_9 a0_10 a0_11 a0_12)) = some r := by first | (rw [hy174]; with_reducible exact H) | (have H2_ := (Option.bind_some _ _).symm.trans H; rw [hy174]; with_reducible exact H2_) | (have H2_ := (Option.bind_some _ _).symm.trans H; with_reducible exact H2_) | with_reducible exact H | (rw [hy174]; exact H) | exact H
                    have Ny174 := am hy174
                    clear hy174
                    by_cases c42 : (rd y174 ((rd_T39 l0_1 x8_3).f1)) = x7_2
                    ·rw [if_pos c42] at H
                     have c42b0 : ((rd y174 ((rd_T39 l0_1 x8_3).f1)) == x7_2) = true := beq_iff_eq.mpr c42
                     have c42b1 : ((rd y174 ((rd_T39 l0_1 x8_3).f1)) != x7_2) = false := bne_eq_false_iff_eq.mpr c42
                     clear c42
                     by_cases c43 : 0 ≤ ((rd_T39 l0_1 x8_3).f0)
                     ·rw [if_pos c43] at H
                      have c43b0 : decide (0 ≤ ((rd_T39 l0_1 x8_3).f0)) = true := dT c43
                      clear c43
                      by_cases c44 : ((rd_T39 l0_1 x8_3).f0) < (x5_3.length : Int)
                      ·rw [if_pos c44] at H
                       have c44b0 : decide (((rd_T39 l0_1 x8_3).f0) < (x5_3.length : Int)) = true := dT c44
                       clear c44
                       by_cases c45 : (rd y174 ((rd_T39 l0_1 x8_3).f0)) < 0
                       ·rw [if_pos c45] at H
                        have c45b0 : decide ((rd y174 ((rd_T39 l0_1 x8_3).f0)) < 0) = true := dT c45
                        clear c45
                        obtain ⟨y177, hy177⟩ : ∃ y_ : List Int, y_ = (y174.set (((rd_T39 l0_1 x8_3).f0) : Int).toNat (wrap64 (x7_2 + 1))) := ⟨_, rfl⟩
                        replace H : (dr5_dists.l2 kj23 y177 x7_2 (wrap64 (x8_3 + 1)) l0_0 l0_1 a0_2 a0_3 a0_4 a0_5 a0_6 a0_7 a0_8 a0_9 a0_10 a0_11 a0_12) = some r := by first | (rw [hy177]; with_reducible exact H) | (have H2_ := (Option.bind_some _ _).symm.trans H; rw [hy177]; with_reducible exact H2_) | (have H2_ := (Option.bind_some _ _).symm.trans H; with_reducible exact H2_) | with_reducible exact H | (rw [hy177]; exact H) | exact H
                        have Ny177 := am hy177
                        clear hy177
                        have H' := am H
                        clear H
                        have hnb47 := NB171_164.out
                        have hnc47 := NB164_171.out
                        obtain ⟨hcz48_0, hcz48_1, hcz48_2, hcz48_3, hcz48_4, hcz48_5⟩ := cellsK6 BK171.out
                        obtain ⟨hfz48_0, hfz48_1, hfz48_2, hfz48_3, hfz48_4, hfz48_5⟩ := frozK6 BK171.out
                        have p41 : 0 ≤ (((rd_T39 l0_1 x8_3).f1) : Int) := oT asm
                        have q41 : (((rd_T39 l0_1 x8_3).f1) : Int) < ((x5_3.length : Int) : Int) := oT asm
                        obtain ⟨hx41_0, hf41_0⟩ := Kd.R_celln 0 HO_5.out (((rd_T39 l0_1 x8_3).f1) : Int) p41 q41
                        replace p41 := eq_true p41
                        replace q41 := eq_true q41
                        have HP49 := Kd.R_putg HO_5.out (((rd_T39 l0_1 x8_3).f1) : Int) (wrap64 (x7_2 + 1))
                        go_wp2_with (first | ((with_reducible refine gate_store (t := 3) (p := 64) rfl ?_); refine store_event (t := 3) (p := 64) (v := ?vo_w50) (w1 := (wc.setCell ⟨go17, (((rd_T39 l0_1 x8_3).f1) : Int).toNat, none⟩ (.int .i64 (wrap64 (x7_2 + 1))))) ?hg ?ho ?hn ?hr ?_; (case ho => rfl); (case hg => rfl); (case hn => rfl); (case hr => first | (go_simp; done) | (go_simp; rfl)); intro w50 hw; have hg : wc.grownBy w50 (some go17) := (by rw [hw]; exact HP49.2); have hp_ : Kd.R (Kd.int .i64) 3 w50 w.heap.size (fun _ => True) (.slice (some ⟨go17, 0, none⟩) x5_3.length co18) y174 := (by rw [hw, Ny174.out]; exact HP49.1); clear HP49; have n0_ := am (hp_); have n1_ := am (blk_grown (bk BK164) hg (Kd.R_ne HO_5.out BK164.out (by decide))); have n2_ := am (blk_grown (bk BK171) hg (Kd.R_ne HO_5.out BK171.out (by decide))); have n3_ := am ((by rw [hw]; exact below_set (HB.out) GB17.out : Below w.heap.size w w50)); clear HO_5; clear BK164; clear BK171; clear HB; have HO_5 := n0_; have BK164 := n1_; have BK171 := n2_; have HB := n3_; clear n0_ n1_ n2_ n3_; clear hg hw hp_; obtain ⟨hcz51_0, hcz51_1, hcz51_2, hcz51_3, hcz51_4, hcz51_5⟩ := cellsK6 BK171.out; obtain ⟨hfz51_0, hfz51_1, hfz51_2, hfz51_3, hfz51_4, hfz51_5⟩ := frozK6 BK171.out; have p175 : 0 ≤ (((rd_T39 l0_1 x8_3).f1) : Int) := oT asm; have q175 : ((rd_T39 l0_1 x8_3).f1) < (y174.length : Int) := (by have h_ : (((rd_T39 l0_1 x8_3).f1) : Int) < ((x5_3.length : Int) : Int) := oT asm; first | (have e_ := (Kd.R_reads' HO_5.out).1; omega) | simpa only [Ny174.out, List.length_set] using h_); have ql175 : ((((rd_T39 l0_1 x8_3).f1) : Int) < ((x5_3.length : Int) : Int)) = True := eq_true (oT asm); obtain ⟨ad175, e175, hx175_0⟩ := Kd.at_int (Kd.R_reads' HO_5.out).2.2 ((rd_T39 l0_1 x8_3).f1) p175 q175; obtain rfl : (⟨go17, 0, none⟩ : Addr) = ad175 := (by injection e175); (first | simp only [add_plain] at hx175_0 | simp only [add_at] at hx175_0 | simp only [Addr.add, Nat.zero_add] at hx175_0 | skip); replace p175 := eq_true p175; replace q175 := eq_true q175; have p176 : 0 ≤ (((rd_T39 l0_1 x8_3).f0) : Int) := oT asm; have q176 : ((rd_T39 l0_1 x8_3).f0) < (y174.length : Int) := (by have h_ : (((rd_T39 l0_1 x8_3).f0) : Int) < ((x5_3.length : Int) : Int) := oT asm; first | (have e_ := (Kd.R_reads' HO_5.out).1; omega) | simpa only [Ny174.out, List.length_set] using h_); have ql176 : ((((rd_T39 l0_1 x8_3).f0) : Int) < ((x5_3.length : Int) : Int)) = True := eq_true (oT asm); obtain ⟨ad176, e176, hx176_0⟩ := Kd.at_int (Kd.R_reads' HO_5.out).2.2 ((rd_T39 l0_1 x8_3).f0) p176 q176; obtain rfl : (⟨go17, 0, none⟩ : Addr) = ad176 := (by injection e176); (first | simp only [add_plain] at hx176_0 | simp only [add_at] at hx176_0 | simp only [Addr.add, Nat.zero_add] at hx176_0 | skip); replace p176 := eq_true p176; replace q176 := eq_true q176; have p46 : 0 ≤ (((rd_T39 l0_1 x8_3).f0) : Int) := oT asm; have q46 : (((rd_T39 l0_1 x8_3).f0) : Int) < ((x5_3.length : Int) : Int) := oT asm; obtain ⟨hx46_0, hf46_0⟩ := Kd.R_celln 0 HO_5.out (((rd_T39 l0_1 x8_3).f0) : Int) p46 q46; replace p46 := eq_true p46; replace q46 := eq_true q46; obtain ⟨hy52_, hz52_⟩ := Kd.R_celln 0 HO_5.out (((rd_T39 l0_1 x8_3).f0) : Int) (oT asm) (oT asm); have HP52 := Kd.R_putg HO_5.out (((rd_T39 l0_1 x8_3).f0) : Int) (wrap64 (x7_2 + 1))) | ((with_reducible refine gate_store (t := 3) (p := 85) rfl ?_); refine store_event (t := 3) (p := 85) (v := ?vo_w53) (w1 := (w50.setCell ⟨go17, (((rd_T39 l0_1 x8_3).f0) : Int).toNat, none⟩ (.int .i64 (wrap64 (x7_2 + 1))))) ?hg ?ho ?hn ?hr ?_; (case ho => rfl); (case hg => rfl); (case hn => rfl); (case hr => first | (go_simp; done) | (go_simp; rfl)); intro w53 hw; have hg : w50.grownBy w53 (some go17) := (by rw [hw]; exact HP52.2); have hp_ : Kd.R (Kd.int .i64) 3 w53 w.heap.size (fun _ => True) (.slice (some ⟨go17, 0, none⟩) x5_3.length co18) y177 := (by rw [hw, Ny177.out]; exact HP52.1); clear HP52; have n0_ := am (hp_); have n1_ := am (blk_grown (bk BK164) hg (Kd.R_ne HO_5.out BK164.out (by decide))); have n2_ := am (blk_grown (bk BK171) hg (Kd.R_ne HO_5.out BK171.out (by decide))); have n3_ := am ((by rw [hw]; exact below_set (HB.out) GB17.out : Below w.heap.size w w53)); clear HO_5; clear BK164; clear BK171; clear HB; have HO_5 := n0_; have BK164 := n1_; have BK171 := n2_; have HB := n3_; clear n0_ n1_ n2_ n3_; clear hg hw hp_))
                        (try simp only [← hl5_3])
                        go_roundg kj23
                        case measure => have := HK1.out; have := HK2.out; have := HK3.out; have := HJ23.out; omega
                        case rel => exact ⟨(y177), (wrap64 (x8_3 + 1)), bx, H', ⟨by have := HK1.out; have := HK2.out; have := HK3.out; have := HJ23.out; omega⟩, ⟨by (try simp only [hl5_2]); (try simp only [hl5_3]); (with_reducible repeat (first | apply Kd.R_alloc | apply Kd.R_drewN | apply Kd.R_drew)); exact HO_5.out⟩, ⟨by (try simp only [hl5_2]); (try simp only [hl5_3]); exact bk BK164⟩, ⟨bl2 GE164 GE171⟩⟩
                       ·rw [if_neg c45] at H
                        have c45b0 : decide ((rd y174 ((rd_T39 l0_1 x8_3).f0)) < 0) = false := dF c45
                        clear c45
                        have H' := am H
                        clear H
                        have hnb54 := NB171_164.out
                        have hnc54 := NB164_171.out
                        obtain ⟨hcz55_0, hcz55_1, hcz55_2, hcz55_3, hcz55_4, hcz55_5⟩ := cellsK6 BK171.out
                        obtain ⟨hfz55_0, hfz55_1, hfz55_2, hfz55_3, hfz55_4, hfz55_5⟩ := frozK6 BK171.out
                        have p41 : 0 ≤ (((rd_T39 l0_1 x8_3).f1) : Int) := oT asm
                        have q41 : (((rd_T39 l0_1 x8_3).f1) : Int) < ((x5_3.length : Int) : Int) := oT asm
                        obtain ⟨hx41_0, hf41_0⟩ := Kd.R_celln 0 HO_5.out (((rd_T39 l0_1 x8_3).f1) : Int) p41 q41
                        replace p41 := eq_true p41
                        replace q41 := eq_true q41
                        have HP56 := Kd.R_putg HO_5.out (((rd_T39 l0_1 x8_3).f1) : Int) (wrap64 (x7_2 + 1))
                        go_wp2_with (first | ((with_reducible refine gate_store (t := 3) (p := 64) rfl ?_); refine store_event (t := 3) (p := 64) (v := ?vo_w57) (w1 := (wc.setCell ⟨go17, (((rd_T39 l0_1 x8_3).f1) : Int).toNat, none⟩ (.int .i64 (wrap64 (x7_2 + 1))))) ?hg ?ho ?hn ?hr ?_; (case ho => rfl); (case hg => rfl); (case hn => rfl); (case hr => first | (go_simp; done) | (go_simp; rfl)); intro w57 hw; have hg : wc.grownBy w57 (some go17) := (by rw [hw]; exact HP56.2); have hp_ : Kd.R (Kd.int .i64) 3 w57 w.heap.size (fun _ => True) (.slice (some ⟨go17, 0, none⟩) x5_3.length co18) y174 := (by rw [hw, Ny174.out]; exact HP56.1); clear HP56; have n0_ := am (hp_); have n1_ := am (blk_grown (bk BK164) hg (Kd.R_ne HO_5.out BK164.out (by decide))); have n2_ := am (blk_grown (bk BK171) hg (Kd.R_ne HO_5.out BK171.out (by decide))); have n3_ := am ((by rw [hw]; exact below_set (HB.out) GB17.out : Below w.heap.size w w57)); clear HO_5; clear BK164; clear BK171; clear HB; have HO_5 := n0_; have BK164 := n1_; have BK171 := n2_; have HB := n3_; clear n0_ n1_ n2_ n3_; clear hg hw hp_; obtain ⟨hcz58_0, hcz58_1, hcz58_2, hcz58_3, hcz58_4, hcz58_5⟩ := cellsK6 BK171.out; obtain ⟨hfz58_0, hfz58_1, hfz58_2, hfz58_3, hfz58_4, hfz58_5⟩ := frozK6 BK171.out; have p175 : 0 ≤ (((rd_T39 l0_1 x8_3).f1) : Int) := oT asm; have q175 : ((rd_T39 l0_1 x8_3).f1) < (y174.length : Int) := (by have h_ : (((rd_T39 l0_1 x8_3).f1) : Int) < ((x5_3.length : Int) : Int) := oT asm; first | (have e_ := (Kd.R_reads' HO_5.out).1; omega) | simpa only [Ny174.out, List.length_set] using h_); have ql175 : ((((rd_T39 l0_1 x8_3).f1) : Int) < ((x5_3.length : Int) : Int)) = True := eq_true (oT asm); obtain ⟨ad175, e175, hx175_0⟩ := Kd.at_int (Kd.R_reads' HO_5.out).2.2 ((rd_T39 l0_1 x8_3).f1) p175 q175; obtain rfl : (⟨go17, 0, none⟩ : Addr) = ad175 := (by injection e175); (first | simp only [add_plain] at hx175_0 | simp only [add_at] at hx175_0 | simp only [Addr.add, Nat.zero_add] at hx175_0 | skip); replace p175 := eq_true p175; replace q175 := eq_true q175; have p176 : 0 ≤ (((rd_T39 l0_1 x8_3).f0) : Int) := oT asm; have q176 : ((rd_T39 l0_1 x8_3).f0) < (y174.length : Int) := (by have h_ : (((rd_T39 l0_1 x8_3).f0) : Int) < ((x5_3.length : Int) : Int) := oT asm; first | (have e_ := (Kd.R_reads' HO_5.out).1; omega) | simpa only [Ny174.out, List.length_set] using h_); have ql176 : ((((rd_T39 l0_1 x8_3).f0) : Int) < ((x5_3.length : Int) : Int)) = True := eq_true (oT asm); obtain ⟨ad176, e176, hx176_0⟩ := Kd.at_int (Kd.R_reads' HO_5.out).2.2 ((rd_T39 l0_1 x8_3).f0) p176 q176; obtain rfl : (⟨go17, 0, none⟩ : Addr) = ad176 := (by injection e176); (first | simp only [add_plain] at hx176_0 | simp only [add_at] at hx176_0 | simp only [Addr.add, Nat.zero_add] at hx176_0 | skip); replace p176 := eq_true p176; replace q176 := eq_true q176))
                        (try simp only [← hl5_3])
                        go_roundg kj23
                        case measure => have := HK1.out; have := HK2.out; have := HK3.out; have := HJ23.out; omega
                        case rel => exact ⟨(y174), (wrap64 (x8_3 + 1)), bx, H', ⟨by have := HK1.out; have := HK2.out; have := HK3.out; have := HJ23.out; omega⟩, ⟨by (try simp only [hl5_2]); (try simp only [hl5_3]); (with_reducible repeat (first | apply Kd.R_alloc | apply Kd.R_drewN | apply Kd.R_drew)); exact HO_5.out⟩, ⟨by (try simp only [hl5_2]); (try simp only [hl5_3]); exact bk BK164⟩, ⟨bl2 GE164 GE171⟩⟩
                      ·rw [if_neg c44] at H
                       exact absurd H (by simp)
                     ·rw [if_neg c43] at H
                      exact absurd H (by simp)
                    ·rw [if_neg c42] at H
                     have c42b0 : ((rd y174 ((rd_T39 l0_1 x8_3).f1)) == x7_2) = false := beq_eq_false_iff_ne.mpr c42
                     have c42b1 : ((rd y174 ((rd_T39 l0_1 x8_3).f1)) != x7_2) = true := bne_iff_ne.mpr c42
                     have H' := am H
                     clear H
                     have hnb59 := NB171_164.out
                     have hnc59 := NB164_171.out
                     obtain ⟨hcz60_0, hcz60_1, hcz60_2, hcz60_3, hcz60_4, hcz60_5⟩ := cellsK6 BK171.out
                     obtain ⟨hfz60_0, hfz60_1, hfz60_2, hfz60_3, hfz60_4, hfz60_5⟩ := frozK6 BK171.out
                     have p41 : 0 ≤ (((rd_T39 l0_1 x8_3).f1) : Int) := oT asm
                     have q41 : (((rd_T39 l0_1 x8_3).f1) : Int) < ((x5_3.length : Int) : Int) := oT asm
                     obtain ⟨hx41_0, hf41_0⟩ := Kd.R_celln 0 HO_5.out (((rd_T39 l0_1 x8_3).f1) : Int) p41 q41
                     replace p41 := eq_true p41
                     replace q41 := eq_true q41
                     have HP61 := Kd.R_putg HO_5.out (((rd_T39 l0_1 x8_3).f1) : Int) (wrap64 (x7_2 + 1))
                     go_wp2_with (first | ((with_reducible refine gate_store (t := 3) (p := 64) rfl ?_); refine store_event (t := 3) (p := 64) (v := ?vo_w62) (w1 := (wc.setCell ⟨go17, (((rd_T39 l0_1 x8_3).f1) : Int).toNat, none⟩ (.int .i64 (wrap64 (x7_2 + 1))))) ?hg ?ho ?hn ?hr ?_; (case ho => rfl); (case hg => rfl); (case hn => rfl); (case hr => first | (go_simp; done) | (go_simp; rfl)); intro w62 hw; have hg : wc.grownBy w62 (some go17) := (by rw [hw]; exact HP61.2); have hp_ : Kd.R (Kd.int .i64) 3 w62 w.heap.size (fun _ => True) (.slice (some ⟨go17, 0, none⟩) x5_3.length co18) y174 := (by rw [hw, Ny174.out]; exact HP61.1); clear HP61; have n0_ := am (hp_); have n1_ := am (blk_grown (bk BK164) hg (Kd.R_ne HO_5.out BK164.out (by decide))); have n2_ := am (blk_grown (bk BK171) hg (Kd.R_ne HO_5.out BK171.out (by decide))); have n3_ := am ((by rw [hw]; exact below_set (HB.out) GB17.out : Below w.heap.size w w62)); clear HO_5; clear BK164; clear BK171; clear HB; have HO_5 := n0_; have BK164 := n1_; have BK171 := n2_; have HB := n3_; clear n0_ n1_ n2_ n3_; clear hg hw hp_; obtain ⟨hcz63_0, hcz63_1, hcz63_2, hcz63_3, hcz63_4, hcz63_5⟩ := cellsK6 BK171.out; obtain ⟨hfz63_0, hfz63_1, hfz63_2, hfz63_3, hfz63_4, hfz63_5⟩ := frozK6 BK171.out; have p175 : 0 ≤ (((rd_T39 l0_1 x8_3).f1) : Int) := oT asm; have q175 : ((rd_T39 l0_1 x8_3).f1) < (y174.length : Int) := (by have h_ : (((rd_T39 l0_1 x8_3).f1) : Int) < ((x5_3.length : Int) : Int) := oT asm; first | (have e_ := (Kd.R_reads' HO_5.out).1; omega) | simpa only [Ny174.out, List.length_set] using h_); have ql175 : ((((rd_T39 l0_1 x8_3).f1) : Int) < ((x5_3.length : Int) : Int)) = True := eq_true (oT asm); obtain ⟨ad175, e175, hx175_0⟩ := Kd.at_int (Kd.R_reads' HO_5.out).2.2 ((rd_T39 l0_1 x8_3).f1) p175 q175; obtain rfl : (⟨go17, 0, none⟩ : Addr) = ad175 := (by injection e175); (first | simp only [add_plain] at hx175_0 | simp only [add_at] at hx175_0 | simp only [Addr.add, Nat.zero_add] at hx175_0 | skip); replace p175 := eq_true p175; replace q175 := eq_true q175))
                     (try simp only [← hl5_3])
                     go_roundg kj23
                     case measure => have := HK1.out; have := HK2.out; have := HK3.out; have := HJ23.out; omega
                     case rel => exact ⟨(y174), (wrap64 (x8_3 + 1)), bx, H', ⟨by have := HK1.out; have := HK2.out; have := HK3.out; have := HJ23.out; omega⟩, ⟨by (try simp only [hl5_2]); (try simp only [hl5_3]); (with_reducible repeat (first | apply Kd.R_alloc | apply Kd.R_drewN | apply Kd.R_drew)); exact HO_5.out⟩, ⟨by (try simp only [hl5_2]); (try simp only [hl5_3]); exact bk BK164⟩, ⟨bl2 GE164 GE171⟩⟩
                   ·rw [if_neg c40] at H
                    exact absurd H (by simp)
                  ·rw [if_neg c39] at H
                   exact absurd H (by simp)
                 ·replace c38 := Bool.eq_false_iff.mpr c38
                  subst c38
                  have H1 : (if 0 ≤ ((rd_T39 l0_1 x8_3).f1) then (if ((rd_T39 l0_1 x8_3).f1) < (x5_3.length : Int) then (if (rd x5_3 ((rd_T39 l0_1 x8_3).f1)) = x7_2 then (if 0 ≤ ((rd_T39 l0_1 x8_3).f0) then (if ((rd_T39 l0_1 x8_3).f0) < (x5_3.length : Int) then (if (rd x5_3 ((rd_T39 l0_1 x8_3).f0)) < 0 then (dr5_dists.l2 kj23 (x5_3.set (((rd_T39 l0_1 x8_3).f0) : Int).toNat (wrap64 (x7_2 + 1))) x7_2 (wrap64 (x8_3 + 1)) l0_0 l0_1 a0_2 a0_3 a0_4 a0_5 a0_6 a0_7 a0_8 a0_9 a0_10 a0_11 a0_12) else (dr5_dists.l2 kj23 x5_3 x7_2 (wrap64 (x8_3 + 1)) l0_0 l0_1 a0_2 a0_3 a0_4 a0_5 a0_6 a0_7 a0_8 a0_9 a0_10 a0_11 a0_12)) else (none)) else (none)) else (dr5_dists.l2 kj23 x5_3 x7_2 (wrap64 (x8_3 + 1)) l0_0 l0_1 a0_2 a0_3 a0_4 a0_5 a0_6 a0_7 a0_8 a0_9 a0_10 a0_11 a0_12)) else (none)) else (none)) = some r := by rw [if_neg (show ¬ (false = true) by decide)] at H; exact H
                  clear H
                  have H := H1
                  clear H1
                  by_cases c64 : 0 ≤ ((rd_T39 l0_1 x8_3).f1)
                  ·rw [if_pos c64] at H
                   have c64b0 : decide (0 ≤ ((rd_T39 l0_1 x8_3).f1)) = true := dT c64
                   clear c64
                   by_cases c65 : ((rd_T39 l0_1 x8_3).f1) < (x5_3.length : Int)
                   ·rw [if_pos c65] at H
                    have c65b0 : decide (((rd_T39 l0_1 x8_3).f1) < (x5_3.length : Int)) = true := dT c65
                    clear c65
                    by_cases c66 : (rd x5_3 ((rd_T39 l0_1 x8_3).f1)) = x7_2
                    ·rw [if_pos c66] at H
                     have c66b0 : ((rd x5_3 ((rd_T39 l0_1 x8_3).f1)) == x7_2) = true := beq_iff_eq.mpr c66
                     have c66b1 : ((rd x5_3 ((rd_T39 l0_1 x8_3).f1)) != x7_2) = false := bne_eq_false_iff_eq.mpr c66
                     clear c66
                     by_cases c67 : 0 ≤ ((rd_T39 l0_1 x8_3).f0)
                     ·rw [if_pos c67] at H
                      have c67b0 : decide (0 ≤ ((rd_T39 l0_1 x8_3).f0)) = true := dT c67
                      clear c67
                      by_cases c68 : ((rd_T39 l0_1 x8_3).f0) < (x5_3.length : Int)
                      ·rw [if_pos c68] at H
                       have c68b0 : decide (((rd_T39 l0_1 x8_3).f0) < (x5_3.length : Int)) = true := dT c68
                       clear c68
                       by_cases c69 : (rd x5_3 ((rd_T39 l0_1 x8_3).f0)) < 0
                       ·rw [if_pos c69] at H
                        have c69b0 : decide ((rd x5_3 ((rd_T39 l0_1 x8_3).f0)) < 0) = true := dT c69
                        clear c69
                        obtain ⟨y180, hy180⟩ : ∃ y_ : List Int, y_ = (x5_3.set (((rd_T39 l0_1 x8_3).f0) : Int).toNat (wrap64 (x7_2 + 1))) := ⟨_, rfl⟩
                        replace H : (dr5_dists.l2 kj23 y180 x7_2 (wrap64 (x8_3 + 1)) l0_0 l0_1 a0_2 a0_3 a0_4 a0_5 a0_6 a0_7 a0_8 a0_9 a0_10 a0_11 a0_12) = some r := by first | (rw [hy180]; with_reducible exact H) | (have H2_ := (Option.bind_some _ _).symm.trans H; rw [hy180]; with_reducible exact H2_) | (have H2_ := (Option.bind_some _ _).symm.trans H; with_reducible exact H2_) | with_reducible exact H | (rw [hy180]; exact H) | exact H
                        have Ny180 := am hy180
                        clear hy180
                        have H' := am H
                        clear H
                        have hnb71 := NB171_164.out
                        have hnc71 := NB164_171.out
                        obtain ⟨hcz72_0, hcz72_1, hcz72_2, hcz72_3, hcz72_4, hcz72_5⟩ := cellsK6 BK171.out
                        obtain ⟨hfz72_0, hfz72_1, hfz72_2, hfz72_3, hfz72_4, hfz72_5⟩ := frozK6 BK171.out
                        have p178 : 0 ≤ (((rd_T39 l0_1 x8_3).f1) : Int) := oT asm
                        have q178 : ((rd_T39 l0_1 x8_3).f1) < (x5_3.length : Int) := oT asm
                        obtain ⟨ad178, e178, hx178_0⟩ := Kd.at_int (Kd.R_reads' HO_5.out).2.2 ((rd_T39 l0_1 x8_3).f1) p178 q178
                        obtain rfl : (⟨go17, 0, none⟩ : Addr) = ad178 := (by injection e178)
                        (first | simp only [add_plain] at hx178_0 | simp only [add_at] at hx178_0 | simp only [Addr.add, Nat.zero_add] at hx178_0 | skip)
                        replace p178 := eq_true p178
                        replace q178 := eq_true q178
                        have p179 : 0 ≤ (((rd_T39 l0_1 x8_3).f0) : Int) := oT asm
                        have q179 : ((rd_T39 l0_1 x8_3).f0) < (x5_3.length : Int) := oT asm
                        obtain ⟨ad179, e179, hx179_0⟩ := Kd.at_int (Kd.R_reads' HO_5.out).2.2 ((rd_T39 l0_1 x8_3).f0) p179 q179
                        obtain rfl : (⟨go17, 0, none⟩ : Addr) = ad179 := (by injection e179)
                        (first | simp only [add_plain] at hx179_0 | simp only [add_at] at hx179_0 | simp only [Addr.add, Nat.zero_add] at hx179_0 | skip)
                        replace p179 := eq_true p179
                        replace q179 := eq_true q179
                        have p70 : 0 ≤ (((rd_T39 l0_1 x8_3).f0) : Int) := oT asm
                        have q70 : (((rd_T39 l0_1 x8_3).f0) : Int) < ((x5_3.length : Int) : Int) := oT asm
                        obtain ⟨hx70_0, hf70_0⟩ := Kd.R_celln 0 HO_5.out (((rd_T39 l0_1 x8_3).f0) : Int) p70 q70
                        replace p70 := eq_true p70
                        replace q70 := eq_true q70
                        have HP73 := Kd.R_putg HO_5.out (((rd_T39 l0_1 x8_3).f0) : Int) (wrap64 (x7_2 + 1))
                        go_wp2_with (first | ((with_reducible refine gate_store (t := 3) (p := 85) rfl ?_); refine store_event (t := 3) (p := 85) (v := ?vo_w74) (w1 := (wc.setCell ⟨go17, (((rd_T39 l0_1 x8_3).f0) : Int).toNat, none⟩ (.int .i64 (wrap64 (x7_2 + 1))))) ?hg ?ho ?hn ?hr ?_; (case ho => rfl); (case hg => rfl); (case hn => rfl); (case hr => first | (go_simp; done) | (go_simp; rfl)); intro w74 hw; have hg : wc.grownBy w74 (some go17) := (by rw [hw]; exact HP73.2); have hp_ : Kd.R (Kd.int .i64) 3 w74 w.heap.size (fun _ => True) (.slice (some ⟨go17, 0, none⟩) x5_3.length co18) y180 := (by rw [hw, Ny180.out]; exact HP73.1); clear HP73; have n0_ := am (hp_); have n1_ := am (blk_grown (bk BK164) hg (Kd.R_ne HO_5.out BK164.out (by decide))); have n2_ := am (blk_grown (bk BK171) hg (Kd.R_ne HO_5.out BK171.out (by decide))); have n3_ := am ((by rw [hw]; exact below_set (HB.out) GB17.out : Below w.heap.size w w74)); clear HO_5; clear BK164; clear BK171; clear HB; have HO_5 := n0_; have BK164 := n1_; have BK171 := n2_; have HB := n3_; clear n0_ n1_ n2_ n3_; clear hg hw hp_))
                        (try simp only [← hl5_3])
                        go_roundg kj23
                        case measure => have := HK1.out; have := HK2.out; have := HK3.out; have := HJ23.out; omega
                        case rel => exact ⟨(y180), (wrap64 (x8_3 + 1)), bx, H', ⟨by have := HK1.out; have := HK2.out; have := HK3.out; have := HJ23.out; omega⟩, ⟨by (try simp only [hl5_2]); (try simp only [hl5_3]); (with_reducible repeat (first | apply Kd.R_alloc | apply Kd.R_drewN | apply Kd.R_drew)); exact HO_5.out⟩, ⟨by (try simp only [hl5_2]); (try simp only [hl5_3]); exact bk BK164⟩, ⟨bl2 GE164 GE171⟩⟩
                       ·rw [if_neg c69] at H
                        have c69b0 : decide ((rd x5_3 ((rd_T39 l0_1 x8_3).f0)) < 0) = false := dF c69
                        clear c69
                        have H' := am H
                        clear H
                        have hnb75 := NB171_164.out
                        have hnc75 := NB164_171.out
                        obtain ⟨hcz76_0, hcz76_1, hcz76_2, hcz76_3, hcz76_4, hcz76_5⟩ := cellsK6 BK171.out
                        obtain ⟨hfz76_0, hfz76_1, hfz76_2, hfz76_3, hfz76_4, hfz76_5⟩ := frozK6 BK171.out
                        have p178 : 0 ≤ (((rd_T39 l0_1 x8_3).f1) : Int) := oT asm
                        have q178 : ((rd_T39 l0_1 x8_3).f1) < (x5_3.length : Int) := oT asm
                        obtain ⟨ad178, e178, hx178_0⟩ := Kd.at_int (Kd.R_reads' HO_5.out).2.2 ((rd_T39 l0_1 x8_3).f1) p178 q178
                        obtain rfl : (⟨go17, 0, none⟩ : Addr) = ad178 := (by injection e178)
                        (first | simp only [add_plain] at hx178_0 | simp only [add_at] at hx178_0 | simp only [Addr.add, Nat.zero_add] at hx178_0 | skip)
                        replace p178 := eq_true p178
                        replace q178 := eq_true q178
                        have p179 : 0 ≤ (((rd_T39 l0_1 x8_3).f0) : Int) := oT asm
                        have q179 : ((rd_T39 l0_1 x8_3).f0) < (x5_3.length : Int) := oT asm
                        obtain ⟨ad179, e179, hx179_0⟩ := Kd.at_int (Kd.R_reads' HO_5.out).2.2 ((rd_T39 l0_1 x8_3).f0) p179 q179
                        obtain rfl : (⟨go17, 0, none⟩ : Addr) = ad179 := (by injection e179)
                        (first | simp only [add_plain] at hx179_0 | simp only [add_at] at hx179_0 | simp only [Addr.add, Nat.zero_add] at hx179_0 | skip)
                        replace p179 := eq_true p179
                        replace q179 := eq_true q179
                        go_wp2
                        (try simp only [← hl5_3])
                        go_roundg kj23
                        case measure => have := HK1.out; have := HK2.out; have := HK3.out; have := HJ23.out; omega
                        case rel => exact ⟨(x5_3), (wrap64 (x8_3 + 1)), bx, H', ⟨by have := HK1.out; have := HK2.out; have := HK3.out; have := HJ23.out; omega⟩, ⟨by (try simp only [hl5_2]); (try simp only [hl5_3]); (with_reducible repeat (first | apply Kd.R_alloc | apply Kd.R_drewN | apply Kd.R_drew)); exact HO_5.out⟩, ⟨by (try simp only [hl5_2]); (try simp only [hl5_3]); exact bk BK164⟩, ⟨bl2 GE164 GE171⟩⟩
                      ·rw [if_neg c68] at H
                       exact absurd H (by simp)
                     ·rw [if_neg c67] at H
                      exact absurd H (by simp)
                    ·rw [if_neg c66] at H
                     have c66b0 : ((rd x5_3 ((rd_T39 l0_1 x8_3).f1)) == x7_2) = false := beq_eq_false_iff_ne.mpr c66
                     have c66b1 : ((rd x5_3 ((rd_T39 l0_1 x8_3).f1)) != x7_2) = true := bne_iff_ne.mpr c66
                     have H' := am H
                     clear H
                     have hnb77 := NB171_164.out
                     have hnc77 := NB164_171.out
                     obtain ⟨hcz78_0, hcz78_1, hcz78_2, hcz78_3, hcz78_4, hcz78_5⟩ := cellsK6 BK171.out
                     obtain ⟨hfz78_0, hfz78_1, hfz78_2, hfz78_3, hfz78_4, hfz78_5⟩ := frozK6 BK171.out
                     have p178 : 0 ≤ (((rd_T39 l0_1 x8_3).f1) : Int) := oT asm
                     have q178 : ((rd_T39 l0_1 x8_3).f1) < (x5_3.length : Int) := oT asm
                     obtain ⟨ad178, e178, hx178_0⟩ := Kd.at_int (Kd.R_reads' HO_5.out).2.2 ((rd_T39 l0_1 x8_3).f1) p178 q178
                     obtain rfl : (⟨go17, 0, none⟩ : Addr) = ad178 := (by injection e178)
                     (first | simp only [add_plain] at hx178_0 | simp only [add_at] at hx178_0 | simp only [Addr.add, Nat.zero_add] at hx178_0 | skip)
                     replace p178 := eq_true p178
                     replace q178 := eq_true q178
                     go_wp2
                     (try simp only [← hl5_3])
                     go_roundg kj23
                     case measure => have := HK1.out; have := HK2.out; have := HK3.out; have := HJ23.out; omega
                     case rel => exact ⟨(x5_3), (wrap64 (x8_3 + 1)), bx, H', ⟨by have := HK1.out; have := HK2.out; have := HK3.out; have := HJ23.out; omega⟩, ⟨by (try simp only [hl5_2]); (try simp only [hl5_3]); (with_reducible repeat (first | apply Kd.R_alloc | apply Kd.R_drewN | apply Kd.R_drew)); exact HO_5.out⟩, ⟨by (try simp only [hl5_2]); (try simp only [hl5_3]); exact bk BK164⟩, ⟨bl2 GE164 GE171⟩⟩
                   ·rw [if_neg c65] at H
                    exact absurd H (by simp)
                  ·rw [if_neg c64] at H
                   exact absurd H (by simp)
              ·rw [if_neg c23] at H
               exact absurd H (by simp)
             ·rw [if_neg c22] at H
              have c22b0 : decide (x8_3 < (l0_1.length : Int)) = false := dF c22
              clear c22
              have H' := am H
              clear H
              obtain ⟨hcz79_0, hcz79_1, hcz79_2, hcz79_3, hcz79_4, hcz79_5, hcz79_6, hcz79_7, hcz79_8, hcz79_9, hcz79_10, hcz79_11, hcz79_12⟩ := cellsK13 BK164.out
              obtain ⟨hfz79_0, hfz79_1, hfz79_2, hfz79_3, hfz79_4, hfz79_5, hfz79_6, hfz79_7, hfz79_8, hfz79_9, hfz79_10, hfz79_11, hfz79_12⟩ := frozK13 BK164.out
              go_wp2
              (try simp only [← hl5_2, ← hl5_3])
              go_roundg k3
              case measure => have := HK1.out; have := HK2.out; have := HK3.out; omega
              case rel => exact ⟨(x5_3), (wrap64 (x7_2 + 1)), bx, H', ⟨by have := HK1.out; have := HK2.out; have := HK3.out; omega⟩, ⟨by (try simp only [hl5_2]); (try simp only [hl5_3]); (with_reducible repeat (first | apply Kd.R_alloc | apply Kd.R_drewN | apply Kd.R_drew)); exact HO_5.out⟩, ⟨by (try simp only [hl5_2]); (try simp only [hl5_3]); exact bk BK164⟩, ⟨bl1 GE164⟩⟩
          ·rw [if_neg c21] at H
           have c21b0 : decide (x7_2 < (x5_2.length : Int)) = false := dF c21
           clear c21
           obtain rfl := Option.some.inj H
           go_wp2
           go_ret
           exact ⟨_, ew, kr HO_5.out, bl1 GE164⟩
       ·rw [if_neg c16] at H
        exact absurd H (by simp)
      ·rw [if_neg c15] at H
       exact absurd H (by simp)
  ·rw [if_neg c4] at H
   exact absurd H (by simp)
 ·rw [if_neg c3] at H
  exact absurd H (by simp)
end Go.Proofs.YtbefbhghmommhaaDoor.MWo
