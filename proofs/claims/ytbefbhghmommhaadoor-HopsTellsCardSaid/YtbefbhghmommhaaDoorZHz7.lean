/- Texts of this claim, laid together by a program (wip/g/merge5.py): MWox5. -/
import Derived.Test.YtbefbhghmommhaaDoorZHz4
import Derived.Test.YtbefbhghmommhaaDoorZHz6
namespace Go.Proofs.YtbefbhghmommhaaDoor.MWo
open Go.RowKit Go.Proofs.YtbefbhghmommhaaDoorW.PrintWords Go.Proofs.YtbefbhghmommhaaDoorW.PrintLast Go.Proofs.YtbefbhghmommhaaDoorW.PrintMore
attribute [local go_sem] mp_u32s mp_u32m mp_u8s mp_u8m max2_int min2_int max_two min_two max_three min_three max_four min_four
set_option linter.unusedVariables false
set_option linter.unusedSimpArgs false
mutual
def plan_Dists.l0 : Nat → List Int → Int → Bool → List (S43) → List (S39) → Int → Int → Int → Int → Int → Int → Int → Int → Int → Int → Int → Option (List Int)
 | 0, _, _, _, _, _, _, _, _, _, _, _, _, _, _, _, _ => none
 | k + 1, x5, x6, x7, x104000, x104001, x104002, x104003, x104004, x104005, x104006, x104007, x104008, x104009, x104010, x104011, x104012 => if x7 = true then (plan_Dists.l1 k x5 x6 false x104001 (x104001.length : Int) 0 x104000 x104001 x104002 x104003 x104004 x104005 x104006 x104007 x104008 x104009 x104010 x104011 x104012) else (some x5)
def plan_Dists.l1 : Nat → List Int → Int → Bool → List (S39) → Int → Int → List (S43) → List (S39) → Int → Int → Int → Int → Int → Int → Int → Int → Int → Int → Int → Option (List Int)
 | 0, _, _, _, _, _, _, _, _, _, _, _, _, _, _, _, _, _, _, _ => none
 | k + 1, x5, x6, x7, x24, x25, x26, x104000, x104001, x104002, x104003, x104004, x104005, x104006, x104007, x104008, x104009, x104010, x104011, x104012 => if x26 < x25 then (if 0 ≤ x26 then (if x26 < (x24.length : Int) then ((some (([(⟨(rd_T39 x24 x26).f0, (rd_T39 x24 x26).f1⟩ : S37), (⟨(rd_T39 x24 x26).f1, (rd_T39 x24 x26).f0⟩ : S37)] : List (S37)) : List (S37))).bind fun y113 => (plan_Dists.l2 k x5 x6 x7 x24 x25 x26 y113 (y113.length : Int) 0 x104000 x104001 x104002 x104003 x104004 x104005 x104006 x104007 x104008 x104009 x104010 x104011 x104012)) else (none)) else (none)) else (plan_Dists.l0 k x5 (wrap64 (x6 + 1)) x7 x104000 x104001 x104002 x104003 x104004 x104005 x104006 x104007 x104008 x104009 x104010 x104011 x104012)
def plan_Dists.l2 : Nat → List Int → Int → Bool → List (S39) → Int → Int → List (S37) → Int → Int → List (S43) → List (S39) → Int → Int → Int → Int → Int → Int → Int → Int → Int → Int → Int → Option (List Int)
 | 0, _, _, _, _, _, _, _, _, _, _, _, _, _, _, _, _, _, _, _, _, _, _ => none
 | k + 1, x5, x6, x7, x24, x25, x26, x40, x41, x42, x104000, x104001, x104002, x104003, x104004, x104005, x104006, x104007, x104008, x104009, x104010, x104011, x104012 => if x42 < x41 then (if 0 ≤ x42 then (if x42 < (x40.length : Int) then (if 0 ≤ ((rd_T37 x40 x42).f0) then (if ((rd_T37 x40 x42).f0) < (x5.length : Int) then (if (rd x5 ((rd_T37 x40 x42).f0)) = x6 then (if 0 ≤ ((rd_T37 x40 x42).f1) then (if ((rd_T37 x40 x42).f1) < (x5.length : Int) then (if (rd x5 ((rd_T37 x40 x42).f1)) < 0 then (plan_Dists.l2 k (x5.set (((rd_T37 x40 x42).f1) : Int).toNat (wrap64 (x6 + 1))) x6 true x24 x25 x26 x40 x41 (wrap64 (x42 + 1)) x104000 x104001 x104002 x104003 x104004 x104005 x104006 x104007 x104008 x104009 x104010 x104011 x104012) else (plan_Dists.l2 k x5 x6 x7 x24 x25 x26 x40 x41 (wrap64 (x42 + 1)) x104000 x104001 x104002 x104003 x104004 x104005 x104006 x104007 x104008 x104009 x104010 x104011 x104012)) else (none)) else (none)) else (plan_Dists.l2 k x5 x6 x7 x24 x25 x26 x40 x41 (wrap64 (x42 + 1)) x104000 x104001 x104002 x104003 x104004 x104005 x104006 x104007 x104008 x104009 x104010 x104011 x104012)) else (none)) else (none)) else (none)) else (none)) else (plan_Dists.l1 k x5 x6 x7 x24 x25 (wrap64 (x26 + 1)) x104000 x104001 x104002 x104003 x104004 x104005 x104006 x104007 x104008 x104009 x104010 x104011 x104012)
end
def plan_Dists.f (k : Nat) (l0_0 : List (S43)) (l0_1 : List (S39)) (a0_2 : Int) (a0_3 : Int) (a0_4 : Int) (a0_5 : Int) (a0_6 : Int) (a0_7 : Int) (a0_8 : Int) (a0_9 : Int) (a0_10 : Int) (a0_11 : Int) (a0_12 : Int) (a1 : Int) : Option (List Int) := (slices_Repeat_int_int.f (([(-1)] : List Int)) (l0_0.length : Int)).bind fun t107 => (if 0 ≤ a1 then (if a1 < (t107.length : Int) then (plan_Dists.l0 k (t107.set (a1 : Int).toNat 0) 0 true l0_0 l0_1 a0_2 a0_3 a0_4 a0_5 a0_6 a0_7 a0_8 a0_9 a0_10 a0_11 a0_12) else (none)) else (none))
set_option maxHeartbeats 8000000 in
set_option maxRecDepth 100000 in
theorem plan_Dists.calls (k : Nat) (A0_0 : Option Addr) (c0_0 : Nat) (l0_0 : List (S43)) (A0_1 : Option Addr) (c0_1 : Nat) (l0_1 : List (S39)) (a0_2 : Int) (a0_3 : Int) (a0_4 : Int) (a0_5 : Int) (a0_6 : Int) (a0_7 : Int) (a0_8 : Int) (a0_9 : Int) (a0_10 : Int) (a0_11 : Int) (a0_12 : Int) (a1 : Int) (r : List Int) (w : World) (hr0_0 : Kd.C k43 w A0_0 l0_0.length l0_0) (hc0_0 : l0_0.length ≤ c0_0) (hr0_1 : Kd.C k39 w A0_1 l0_1.length l0_1) (hc0_1 : l0_1.length ≤ c0_1) (h : plan_Dists.f k l0_0 l0_1 a0_2 a0_3 a0_4 a0_5 a0_6 a0_7 a0_8 a0_9 a0_10 a0_11 a0_12 a1 = some r) :
  Calls Tryd.prog 16 #[.agg #[.slice A0_0 l0_0.length c0_0, .slice A0_1 l0_1.length c0_1, .int .i64 a0_2, .int .i64 a0_3, .int .i64 a0_4, .int .i64 a0_5, .int .i64 a0_6, .int .i64 a0_7, .int .i64 a0_8, .int .i64 a0_9, .int .i64 a0_10, .int .i64 a0_11, .int .i64 a0_12], .int .i64 a1] w fun e w' => ∃ v0_ : Value, e = .returned (v0_) ∧ Kd.R (Kd.int .i64) 3 w' w.heap.size (fun _ => True) v0_ r ∧ Below w.heap.size w w' := by
 have hu25 := Tryd.underlying25
 have hu39 := Tryd.underlying39
 have hu37 := Tryd.underlying37
 have HR0_0 := am hr0_0
 have HC0_0 := am hc0_0
 clear hr0_0 hc0_0
 have HR0_1 := am hr0_1
 have HC0_1 := am hc0_1
 clear hr0_1 hc0_1
 have HB := am (Below.refl w.heap.size w)
 have H : ((slices_Repeat_int_int.f (([(-1)] : List Int)) (l0_0.length : Int)).bind fun t107 => (if 0 ≤ a1 then (if a1 < (t107.length : Int) then (plan_Dists.l0 k (t107.set (a1 : Int).toNat 0) 0 true l0_0 l0_1 a0_2 a0_3 a0_4 a0_5 a0_6 a0_7 a0_8 a0_9 a0_10 a0_11 a0_12) else (none)) else (none))) = some r := h
 clear h
 obtain ⟨y104, hy104⟩ : ∃ y_ : List Int, y_ = (([(-1)] : List Int)) := ⟨_, rfl⟩
 replace H : ((slices_Repeat_int_int.f y104 (l0_0.length : Int)).bind fun t107 => (if 0 ≤ a1 then (if a1 < (t107.length : Int) then (plan_Dists.l0 k (t107.set (a1 : Int).toNat 0) 0 true l0_0 l0_1 a0_2 a0_3 a0_4 a0_5 a0_6 a0_7 a0_8 a0_9 a0_10 a0_11 a0_12) else (none)) else (none))) = some r := by first | (rw [hy104]; with_reducible exact H) | (have H2_ := (Option.bind_some _ _).symm.trans H; rw [hy104]; with_reducible exact H2_) | (have H2_ := (Option.bind_some _ _).symm.trans H; with_reducible exact H2_) | with_reducible exact H | (rw [hy104]; exact H) | exact H
 have Ny104 := am hy104
 clear hy104
 replace H := bS H
 obtain ⟨t107, A30, H⟩ := H
 replace H : (if 0 ≤ a1 then (if a1 < (t107.length : Int) then (plan_Dists.l0 k (t107.set (a1 : Int).toNat 0) 0 true l0_0 l0_1 a0_2 a0_3 a0_4 a0_5 a0_6 a0_7 a0_8 a0_9 a0_10 a0_11 a0_12) else (none)) else (none)) = some r := H
 have A3 := am A30
 clear A30
 by_cases c4 : 0 ≤ a1
 ·rw [if_pos c4] at H
  have c4b0 : decide (0 ≤ a1) = true := dT c4
  clear c4
  by_cases c5 : a1 < (t107.length : Int)
  ·rw [if_pos c5] at H
   have c5b0 : decide (a1 < (t107.length : Int)) = true := dT c5
   clear c5
   obtain ⟨y110, hy110⟩ : ∃ y_ : List Int, y_ = (t107.set (a1 : Int).toNat 0) := ⟨_, rfl⟩
   replace H : (plan_Dists.l0 k y110 0 true l0_0 l0_1 a0_2 a0_3 a0_4 a0_5 a0_6 a0_7 a0_8 a0_9 a0_10 a0_11 a0_12) = some r := by first | (rw [hy110]; with_reducible exact H) | (have H2_ := (Option.bind_some _ _).symm.trans H; rw [hy110]; with_reducible exact H2_) | (have H2_ := (Option.bind_some _ _).symm.trans H; with_reducible exact H2_) | with_reducible exact H | (rw [hy110]; exact H) | exact H
   have Ny110 := am hy110
   clear hy110
   have H' := am H
   clear H
   go_enter Tryd.func16, Tryd.ntmps16
   go_wp2_with (first | ((with_reducible refine gate_dst (N := 2) rfl ?_); refine bxe 2 #[.slice A0_0 l0_0.length c0_0, .slice A0_1 l0_1.length c0_1, .int .i64 a0_2, .int .i64 a0_3, .int .i64 a0_4, .int .i64 a0_5, .int .i64 a0_6, .int .i64 a0_7, .int .i64 a0_8, .int .i64 a0_9, .int .i64 a0_10, .int .i64 a0_11, .int .i64 a0_12] 25 ?_; intro gb103 hg w7 hbox hb; have n0_ := am (below_step bl0 hb); have n1_ := am (hbox); have n2_ := am (gw0 hg); have n3_ := am (gw0 hg); clear HB; have HB := n0_; have BK103 := n1_; have GW103 := n2_; have GE103 := n3_; clear n0_ n1_ n2_ n3_; clear hb hbox hg) | ((with_reducible refine gate_dst (N := 12) rfl ?_); refine Kd.R_lit (Kd.int .i64) _ 3 ?hg (N := 12) ?hd (xs := ([(-1)] : List Int)) (inner := [.int .i64 (-1)]) (ok := fun _ => True) (okp := fun _ => True) ?hr ?hp (fun _ hk => hk) trivial (Below.refl _ _) (Nat.le_refl _) (by simp) ?_; (case hd => rfl); (case hg => rfl); (case hr => first | (go_simp; done) | (go_simp; rfl)); (case hp => exact (Reps.one (show Kd.M (Kd.int .i64) _ _ _ (-1) [.int .i64 (-1)] from rfl) (Reps.none _ _))); intro v105 w8 ho9 hb hg_ hnew_; clear hg_ hnew_; (first | rw [← Ny104.out] at ho9 | (simp only [Int.reduceToNat] at ho9; rw [← Ny104.out] at ho9)); have n0_ := am (Kd.R_lower ho9 (below_size (bl1 GE103))); have n1_ := am (blk_below (bk BK103) hb); have n2_ := am (below_step (bl1 GE103) hb); clear BK103; clear HB; have HO106 := n0_; have BK103 := n1_; have HB := n2_; clear n0_ n1_ n2_; clear hb ho9; obtain ⟨hcz10_0, hcz10_1, hcz10_2, hcz10_3, hcz10_4, hcz10_5, hcz10_6, hcz10_7, hcz10_8, hcz10_9, hcz10_10, hcz10_11, hcz10_12⟩ := cellsK13 BK103.out; obtain ⟨hfz10_0, hfz10_1, hfz10_2, hfz10_3, hfz10_4, hfz10_5, hfz10_6, hfz10_7, hfz10_8, hfz10_9, hfz10_10, hfz10_11, hfz10_12⟩ := frozK13 BK103.out; obtain ⟨Ao11, co11, eo11⟩ := Kd.R_slice HO106.out; subst eo11) | ((with_reducible refine gate_callee (f := 24) rfl ?_); refine goesL_ (some 16) rfl rfl Tryd.func24 (by kernel_rfl) rfl #[.slice Ao11 y104.length co11, .int .i64 (l0_0.length : Int)] rfl lm ?_; (with_reducible refine (slices_Repeat_int_int.calls _ _ y104 (l0_0.length : Int) t107 _ ?side1 ?side2 A3.out).mono ?_); (case side1 => exact kg (Kd.R_reads' HO106.out).2.2); (case side2 => exact (Kd.R_reads' HO106.out).2.1); rintro e w12 ⟨v108, rfl, ho0, hb⟩; refine ⟨_, rfl, ?_⟩; have n0_ := am (Kd.R_elder' (kr HO106.out) (Kd.R_base ho0) hb); have n1_ := am (Kd.R_lower (Kd.R_new' ho0 (Kd.R_lt (kr HO106.out))) (below_size (bl1 GE103))); have n2_ := am (blk_below (bk BK103) hb); have n3_ := am (below_step (bl1 GE103) hb); clear HO106; clear BK103; clear HB; have HO106 := n0_; have HO109 := n1_; have BK103 := n2_; have HB := n3_; clear n0_ n1_ n2_ n3_; (try clear hb); (try clear hb2); (try clear hk); (try clear hi); (try clear ho0); have p6 : 0 ≤ (a1 : Int) := oT asm; have q6 : (a1 : Int) < ((t107.length : Int) : Int) := oT asm; obtain ⟨go6, co6, eo6, gb6, gl6, cl6, HG6⟩ := Kd.R_form HO109.out (by omega); (first | cases eo6 | (injection eo6 with ea_ en_ ec_; (first | subst ea_ | (injection ea_ with ea_; subst ea_)); subst ec_; clear en_)); have GB6 := am gb6; have GG6 := am HG6; clear gb6 gl6 HG6; obtain ⟨hx6_0, hf6_0⟩ := Kd.R_celln 0 HO109.out (a1 : Int) p6 q6; replace p6 := eq_true p6; replace q6 := eq_true q6; have n_ := am (Kd.R_mono (ok' := (fun k_ => some k_ ≠ (.slice Ao11 y104.length co11 : Value).ownBlock)) HO109.out (fun k_ hk => hk.2)); clear HO109; have HO109 := n_; clear n_; obtain ⟨hy13_, hz13_⟩ := Kd.R_celln 0 HO109.out (a1 : Int) (oT asm) (oT asm); have HP13 := Kd.R_putg HO109.out (a1 : Int) 0) | ((with_reducible refine gate_store (t := 3) (p := 19) rfl ?_); refine store_event (t := 3) (p := 19) (v := ?vo_w14) (w1 := (w12.setCell ⟨go6, (a1 : Int).toNat, none⟩ (.int .i64 0))) ?hg ?ho ?hn ?hr ?_; (case ho => rfl); (case hg => rfl); (case hn => rfl); (case hr => first | (go_simp; done) | (go_simp; rfl)); intro w14 hw; have hg : w12.grownBy w14 (some go6) := (by rw [hw]; exact HP13.2); have hp_ : Kd.R (Kd.int .i64) 3 w14 w.heap.size (fun k_ => some k_ ≠ (.slice Ao11 y104.length co11 : Value).ownBlock) (.slice (some ⟨go6, 0, none⟩) t107.length co6) y110 := (by rw [hw, Ny110.out]; exact HP13.1); clear HP13; have n0_ := am (blk_grown (bk BK103) hg (Kd.R_ne HO109.out BK103.out (by decide))); have n1_ := am (Kd.R_after (v := (.slice (some ⟨go6, 0, none⟩) t107.length co6)) (v1 := (.slice (some ⟨go6, 0, none⟩) t107.length co6)) (ok := (fun _ => True)) (kr HO106.out) hg (.inl rfl)); have n2_ := am (hp_); have n3_ := am ((by rw [hw]; exact below_set (HB.out) GB6.out : Below w.heap.size w w14)); clear BK103; clear HO106; clear HO109; clear HB; have BK103 := n0_; have HO106 := n1_; have HO109 := n2_; have HB := n3_; clear n0_ n1_ n2_ n3_; clear hg hw hp_))
   go_loopg [6, 7] k (fun kq v6 v7 w' => ∃ (x5_1 : List Int) (x6_1 : Int) (x7_1 : Bool), v6 = .int .i64 x6_1 ∧ v7 = .bool x7_1 ∧ Aside0 (plan_Dists.l0 kq x5_1 x6_1 x7_1 l0_0 l0_1 a0_2 a0_3 a0_4 a0_5 a0_6 a0_7 a0_8 a0_9 a0_10 a0_11 a0_12 = some r) ∧ Aside0 (kq ≤ k) ∧ Aside0 (Kd.R (Kd.int .i64) 3 w' w.heap.size (fun _ => True) (.slice (some ⟨go6, 0, none⟩) t107.length co6) x5_1) ∧ Aside0 (w'.heap[gb103]? = some (.cells #[(.slice A0_0 l0_0.length c0_0), (.slice A0_1 l0_1.length c0_1), .int .i64 a0_2, .int .i64 a0_3, .int .i64 a0_4, .int .i64 a0_5, .int .i64 a0_6, .int .i64 a0_7, .int .i64 a0_8, .int .i64 a0_9, .int .i64 a0_10, .int .i64 a0_11, .int .i64 a0_12] 25 (0, 0))) ∧ Aside0 (Below w.heap.size w w'))
   case atStart => exact ⟨(y110), (0), (true), bx, bx, H', ⟨Nat.le_refl _⟩, ⟨kr (Kd.R_mono HO109.out (fun _ hk => trivial))⟩, ⟨bk BK103⟩, ⟨bl1 GE103⟩⟩
   case round =>
    clear H'
    try clear c1
    try clear c2
    try clear p2
    try clear c4
    try clear c4b0
    try clear c5
    try clear c5b0
    try clear p6
    try clear q6
    try clear hx6
    try clear hf6
    try clear hcz10_0 hcz10_1 hcz10_10 hcz10_11 hcz10_12 hcz10_2 hcz10_3 hcz10_4 hcz10_5 hcz10_6 hcz10_7 hcz10_8 hcz10_9
    try clear hfz10_0 hfz10_1 hfz10_10 hfz10_11 hfz10_12 hfz10_2 hfz10_3 hfz10_4 hfz10_5 hfz10_6 hfz10_7 hfz10_8 hfz10_9
    try clear hx6_0
    try clear p6
    try clear q6
    obtain ⟨x5_1, x6_1, x7_1, rfl, rfl, HA, HK1, HO_5, BK103, HB⟩ := hrel
    have hl5_1 := (Kd.R_reads' HO_5.out).1
    rw [hl5_1] at HO_5
    (try simp only [hl5_1])
    (try simp only [hl5_1] at BK103)
    cases gk with
    | zero => exact absurd HA.out (by simp [plan_Dists.l0])
    | succ k1 =>
     have H := HA.out
     clear HA
     simp only [plan_Dists.l0] at H
     by_cases c15 : x7_1 = true
     ·subst c15
      have H1 : (plan_Dists.l1 k1 x5_1 x6_1 false l0_1 (l0_1.length : Int) 0 l0_0 l0_1 a0_2 a0_3 a0_4 a0_5 a0_6 a0_7 a0_8 a0_9 a0_10 a0_11 a0_12) = some r := by rw [if_pos rfl] at H; exact H
      clear H
      have H := H1
      clear H1
      have H' := am H
      clear H
      obtain ⟨hcz16_0, hcz16_1, hcz16_2, hcz16_3, hcz16_4, hcz16_5, hcz16_6, hcz16_7, hcz16_8, hcz16_9, hcz16_10, hcz16_11, hcz16_12⟩ := cellsK13 BK103.out
      obtain ⟨hfz16_0, hfz16_1, hfz16_2, hfz16_3, hfz16_4, hfz16_5, hfz16_6, hfz16_7, hfz16_8, hfz16_9, hfz16_10, hfz16_11, hfz16_12⟩ := frozK13 BK103.out
      go_wp2
      go_loopg [7, 26] k1 (fun kq v7 v26 w' => ∃ (x5_2 : List Int) (x7_2 : Bool) (x26_2 : Int), v7 = .bool x7_2 ∧ v26 = .int .i64 x26_2 ∧ Aside0 (plan_Dists.l1 kq x5_2 x6_1 x7_2 l0_1 (l0_1.length : Int) x26_2 l0_0 l0_1 a0_2 a0_3 a0_4 a0_5 a0_6 a0_7 a0_8 a0_9 a0_10 a0_11 a0_12 = some r) ∧ Aside0 (kq ≤ k1) ∧ Aside0 (Kd.R (Kd.int .i64) 3 w' w.heap.size (fun _ => True) (.slice (some ⟨go6, 0, none⟩) x5_1.length co6) x5_2) ∧ Aside0 (w'.heap[gb103]? = some (.cells #[(.slice A0_0 l0_0.length c0_0), (.slice A0_1 l0_1.length c0_1), .int .i64 a0_2, .int .i64 a0_3, .int .i64 a0_4, .int .i64 a0_5, .int .i64 a0_6, .int .i64 a0_7, .int .i64 a0_8, .int .i64 a0_9, .int .i64 a0_10, .int .i64 a0_11, .int .i64 a0_12] 25 (0, 0))) ∧ Aside0 (Below w.heap.size w w'))
      case atStart => exact ⟨(x5_1), (false), (0), bx, bx, H', ⟨Nat.le_refl _⟩, ⟨by (try simp only [hl5_1]); (with_reducible repeat (first | apply Kd.R_alloc | apply Kd.R_drewN | apply Kd.R_drew)); exact HO_5.out⟩, ⟨by (try simp only [hl5_1]); exact bk BK103⟩, ⟨bl1 GE103⟩⟩
      case round =>
       clear H'
       try clear c1
       try clear c2
       try clear p2
       try clear c4
       try clear c4b0
       try clear c5
       try clear c5b0
       try clear p6
       try clear q6
       try clear hx6
       try clear hf6
       try clear c15
       try clear c16
       try clear hcz10_0 hcz10_1 hcz10_10 hcz10_11 hcz10_12 hcz10_2 hcz10_3 hcz10_4 hcz10_5 hcz10_6 hcz10_7 hcz10_8 hcz10_9
       try clear hcz16_0 hcz16_1 hcz16_10 hcz16_11 hcz16_12 hcz16_2 hcz16_3 hcz16_4 hcz16_5 hcz16_6 hcz16_7 hcz16_8 hcz16_9
       try clear hfz10_0 hfz10_1 hfz10_10 hfz10_11 hfz10_12 hfz10_2 hfz10_3 hfz10_4 hfz10_5 hfz10_6 hfz10_7 hfz10_8 hfz10_9
       try clear hfz16_0 hfz16_1 hfz16_10 hfz16_11 hfz16_12 hfz16_2 hfz16_3 hfz16_4 hfz16_5 hfz16_6 hfz16_7 hfz16_8 hfz16_9
       try clear hx6_0
       try clear p2
       try clear p6
       try clear q6
       obtain ⟨x5_2, x7_2, x26_2, rfl, rfl, HA, HK2, HO_5, BK103, HB⟩ := hrel
       have hl5_2 := (Kd.R_reads' HO_5.out).1
       rw [hl5_2] at HO_5
       (try simp only [hl5_2])
       (try simp only [hl5_2] at BK103)
       cases gk with
       | zero => exact absurd HA.out (by simp [plan_Dists.l1])
       | succ k2 =>
        have H := HA.out
        clear HA
        simp only [plan_Dists.l1] at H
        by_cases c17 : x26_2 < (l0_1.length : Int)
        ·rw [if_pos c17] at H
         have c17b0 : decide (x26_2 < (l0_1.length : Int)) = true := dT c17
         clear c17
         by_cases c18 : 0 ≤ x26_2
         ·rw [if_pos c18] at H
          have c18b0 : decide (0 ≤ x26_2) = true := dT c18
          clear c18
          by_cases c19 : x26_2 < (l0_1.length : Int)
          ·rw [if_pos c19] at H
           have c19b0 : decide (x26_2 < (l0_1.length : Int)) = true := dT c19
           clear c19
           obtain ⟨y113, hy113⟩ : ∃ y_ : List (S37), y_ = (([(⟨(rd_T39 l0_1 x26_2).f0, (rd_T39 l0_1 x26_2).f1⟩ : S37), (⟨(rd_T39 l0_1 x26_2).f1, (rd_T39 l0_1 x26_2).f0⟩ : S37)] : List (S37))) := ⟨_, rfl⟩
           replace H : (plan_Dists.l2 k2 x5_2 x6_1 x7_2 l0_1 (l0_1.length : Int) x26_2 y113 (y113.length : Int) 0 l0_0 l0_1 a0_2 a0_3 a0_4 a0_5 a0_6 a0_7 a0_8 a0_9 a0_10 a0_11 a0_12) = some r := by first | (rw [hy113]; with_reducible exact H) | (have H2_ := (Option.bind_some _ _).symm.trans H; rw [hy113]; with_reducible exact H2_) | (have H2_ := (Option.bind_some _ _).symm.trans H; with_reducible exact H2_) | with_reducible exact H | (rw [hy113]; exact H) | exact H
           have Ny113 := am hy113
           clear hy113
           have H' := am H
           clear H
           have p111 : 0 ≤ (x26_2 : Int) := oT asm
           have q111 : x26_2 < (l0_1.length : Int) := oT asm
           obtain ⟨ad111, e111, hx111_0, hx111_1, hx111_2, hx111_3, hx111_4, hx111_5⟩ := at_T39 HR0_1.out x26_2 p111 q111
           cases e111
           replace hx111_0 := hxk HB hx111_0
           replace hx111_1 := hxk HB hx111_1
           replace hx111_2 := hxk HB hx111_2
           replace hx111_3 := hxk HB hx111_3
           replace hx111_4 := hxk HB hx111_4
           replace hx111_5 := hxk HB hx111_5
           replace p111 := eq_true p111
           replace q111 := eq_true q111
           go_wp2_with (first | ((with_reducible refine gate_dst (N := 9) rfl ?_); refine bxe 9 #[.int .i64 0, .int .i64 0, .int .i64 0, .int .i64 0, .int .i64 0, .int .i64 0] 39 ?_; intro gb112 hg w20 hbox hb; have n0_ := am (Kd.R_below (kr HO_5.out) hb); have n1_ := am (blk_below (bk BK103) hb); have n2_ := am (below_step (bl1 GE103) hb); have n3_ := am (hbox); have n4_ := am (gw1 hg GE103); have n5_ := am (gw1 hg GE103); have n6_ := am (nl hg BK103); have n7_ := am (nr hg BK103); clear HO_5; clear BK103; clear HB; have HO_5 := n0_; have BK103 := n1_; have HB := n2_; have BK112 := n3_; have GW112 := n4_; have GE112 := n5_; have NB103_112 := n6_; have NB112_103 := n7_; clear n0_ n1_ n2_ n3_ n4_ n5_ n6_ n7_; clear hb hbox hg; have hnb21 := NB112_103.out; have hnc21 := NB103_112.out; obtain ⟨hcz22_0, hcz22_1, hcz22_2, hcz22_3, hcz22_4, hcz22_5⟩ := cellsK6 BK112.out; obtain ⟨hfz22_0, hfz22_1, hfz22_2, hfz22_3, hfz22_4, hfz22_5⟩ := frozK6 BK112.out) | ((with_reducible refine gate_dst (N := 40) rfl ?_); refine Kd.R_lit k37 _ 37 ?hg (N := 40) ?hd (xs := ([(⟨(rd_T39 l0_1 x26_2).f0, (rd_T39 l0_1 x26_2).f1⟩ : S37), (⟨(rd_T39 l0_1 x26_2).f1, (rd_T39 l0_1 x26_2).f0⟩ : S37)] : List (S37))) (inner := [.int .i64 ((rd_T39 l0_1 x26_2).f0), .int .i64 ((rd_T39 l0_1 x26_2).f1), .int .i64 ((rd_T39 l0_1 x26_2).f1), .int .i64 ((rd_T39 l0_1 x26_2).f0)]) (ok := fun _ => True) (okp := fun _ => True) ?hr ?hp (fun _ hk => hk) trivial (Below.refl _ _) (Nat.le_refl _) (by simp) ?_; (case hd => rfl); (case hg => rfl); (case hr => first | (go_simp; done) | (go_simp; rfl)); (case hp => exact (Reps.c2 (show Kd.M k37 _ _ _ (⟨(rd_T39 l0_1 x26_2).f0, (rd_T39 l0_1 x26_2).f1⟩ : S37) [.int .i64 ((rd_T39 l0_1 x26_2).f0), .int .i64 ((rd_T39 l0_1 x26_2).f1)] from (k37_mkM _ _ _ (⟨(rd_T39 l0_1 x26_2).f0, (rd_T39 l0_1 x26_2).f1⟩ : S37) )) (Reps.c2 (show Kd.M k37 _ _ _ (⟨(rd_T39 l0_1 x26_2).f1, (rd_T39 l0_1 x26_2).f0⟩ : S37) [.int .i64 ((rd_T39 l0_1 x26_2).f1), .int .i64 ((rd_T39 l0_1 x26_2).f0)] from (k37_mkM _ _ _ (⟨(rd_T39 l0_1 x26_2).f1, (rd_T39 l0_1 x26_2).f0⟩ : S37) )) (Reps.none _ _)))); intro v114 w23 ho24 hb hg_ hnew_; clear hg_ hnew_; (first | rw [← Ny113.out] at ho24 | (simp only [Int.reduceToNat] at ho24; rw [← Ny113.out] at ho24)); have n0_ := am (Kd.R_below (by (with_reducible repeat (first | apply Kd.R_alloc | apply Kd.R_drewN | apply Kd.R_drew)); exact (Kd.R_mono (Kd.R_far (p := ⟨gb112, 5, none⟩) (Kd.R_far (p := ⟨gb112, 4, none⟩) (Kd.R_far (p := ⟨gb112, 3, none⟩) (Kd.R_far (p := ⟨gb112, 2, none⟩) (Kd.R_far (p := ⟨gb112, 1, none⟩) (Kd.R_far (p := ⟨gb112, 0, none⟩) (Kd.R_types HO_5.out BK112.out (by decide)) (fun _ hk => hk.2) (.int .i64 ((rd_T39 l0_1 x26_2).f0))) (fun _ hk => hk.2) (.int .i64 ((rd_T39 l0_1 x26_2).f1))) (fun _ hk => hk.2) (.int .i64 ((rd_T39 l0_1 x26_2).f2.f0))) (fun _ hk => hk.2) (.int .i64 ((rd_T39 l0_1 x26_2).f2.f1))) (fun _ hk => hk.2) (.int .i64 ((rd_T39 l0_1 x26_2).f3.f0))) (fun _ hk => hk.2) (.int .i64 ((rd_T39 l0_1 x26_2).f3.f1))) (fun _ h_ => h_.1))) hb); have n1_ := am (Kd.R_lower ho24 (below_size (bl2 GE103 GE112))); have n2_ := am (blk_below (g := gb103) (o := .cells #[.slice A0_0 l0_0.length c0_0, .slice (some ad111) l0_1.length c0_1, .int .i64 a0_2, .int .i64 a0_3, .int .i64 a0_4, .int .i64 a0_5, .int .i64 a0_6, .int .i64 a0_7, .int .i64 a0_8, .int .i64 a0_9, .int .i64 a0_10, .int .i64 a0_11, .int .i64 a0_12] 25 (0, 0)) (by (with_reducible repeat (first | refine blk_drewN ?_ _ | refine blk_drew ?_ | refine blk_alloc ?_ _)); refine blk_far ?_ NB103_112.out _; (with_reducible repeat (first | refine blk_drewN ?_ _ | refine blk_drew ?_ | refine blk_alloc ?_ _)); refine blk_far ?_ NB103_112.out _; (with_reducible repeat (first | refine blk_drewN ?_ _ | refine blk_drew ?_ | refine blk_alloc ?_ _)); refine blk_far ?_ NB103_112.out _; (with_reducible repeat (first | refine blk_drewN ?_ _ | refine blk_drew ?_ | refine blk_alloc ?_ _)); refine blk_far ?_ NB103_112.out _; (with_reducible repeat (first | refine blk_drewN ?_ _ | refine blk_drew ?_ | refine blk_alloc ?_ _)); refine blk_far ?_ NB103_112.out _; (with_reducible repeat (first | refine blk_drewN ?_ _ | refine blk_drew ?_ | refine blk_alloc ?_ _)); refine blk_far ?_ NB103_112.out _; exact bk BK103) hb); have n3_ := am (blk_below (g := gb112) (o := .cells #[.int .i64 ((rd_T39 l0_1 x26_2).f0), .int .i64 ((rd_T39 l0_1 x26_2).f1), .int .i64 ((rd_T39 l0_1 x26_2).f2.f0), .int .i64 ((rd_T39 l0_1 x26_2).f2.f1), .int .i64 ((rd_T39 l0_1 x26_2).f3.f0), .int .i64 ((rd_T39 l0_1 x26_2).f3.f1)] 39 (0, 0)) (by (with_reducible repeat (first | refine blk_drewN ?_ _ | refine blk_drew ?_ | refine blk_alloc ?_ _)); refine blk_put (cs := #[.int .i64 ((rd_T39 l0_1 x26_2).f0), .int .i64 ((rd_T39 l0_1 x26_2).f1), .int .i64 ((rd_T39 l0_1 x26_2).f2.f0), .int .i64 ((rd_T39 l0_1 x26_2).f2.f1), .int .i64 ((rd_T39 l0_1 x26_2).f3.f0), .int .i64 0]) ?_ 5 _ rfl; (with_reducible repeat (first | refine blk_drewN ?_ _ | refine blk_drew ?_ | refine blk_alloc ?_ _)); refine blk_put (cs := #[.int .i64 ((rd_T39 l0_1 x26_2).f0), .int .i64 ((rd_T39 l0_1 x26_2).f1), .int .i64 ((rd_T39 l0_1 x26_2).f2.f0), .int .i64 ((rd_T39 l0_1 x26_2).f2.f1), .int .i64 0, .int .i64 0]) ?_ 4 _ rfl; (with_reducible repeat (first | refine blk_drewN ?_ _ | refine blk_drew ?_ | refine blk_alloc ?_ _)); refine blk_put (cs := #[.int .i64 ((rd_T39 l0_1 x26_2).f0), .int .i64 ((rd_T39 l0_1 x26_2).f1), .int .i64 ((rd_T39 l0_1 x26_2).f2.f0), .int .i64 0, .int .i64 0, .int .i64 0]) ?_ 3 _ rfl; (with_reducible repeat (first | refine blk_drewN ?_ _ | refine blk_drew ?_ | refine blk_alloc ?_ _)); refine blk_put (cs := #[.int .i64 ((rd_T39 l0_1 x26_2).f0), .int .i64 ((rd_T39 l0_1 x26_2).f1), .int .i64 0, .int .i64 0, .int .i64 0, .int .i64 0]) ?_ 2 _ rfl; (with_reducible repeat (first | refine blk_drewN ?_ _ | refine blk_drew ?_ | refine blk_alloc ?_ _)); refine blk_put (cs := #[.int .i64 ((rd_T39 l0_1 x26_2).f0), .int .i64 0, .int .i64 0, .int .i64 0, .int .i64 0, .int .i64 0]) ?_ 1 _ rfl; (with_reducible repeat (first | refine blk_drewN ?_ _ | refine blk_drew ?_ | refine blk_alloc ?_ _)); refine blk_put (cs := #[.int .i64 0, .int .i64 0, .int .i64 0, .int .i64 0, .int .i64 0, .int .i64 0]) ?_ 0 _ rfl; exact bk BK112) hb); have n4_ := am (below_step (bl2 GE103 GE112) hb); clear HO_5; clear BK103; clear BK112; clear HB; have HO_5 := n0_; have HO115 := n1_; have BK103 := n2_; have BK112 := n3_; have HB := n4_; clear n0_ n1_ n2_ n3_ n4_; clear hb ho24; obtain ⟨Ao25, co25, eo25⟩ := Kd.R_slice HO115.out; subst eo25))
           go_loopg [7, 42] k2 (fun kq v7 v42 w' => ∃ (x5_3 : List Int) (x7_3 : Bool) (x42_3 : Int), v7 = .bool x7_3 ∧ v42 = .int .i64 x42_3 ∧ Aside0 (plan_Dists.l2 kq x5_3 x6_1 x7_3 l0_1 (l0_1.length : Int) x26_2 y113 (y113.length : Int) x42_3 l0_0 l0_1 a0_2 a0_3 a0_4 a0_5 a0_6 a0_7 a0_8 a0_9 a0_10 a0_11 a0_12 = some r) ∧ Aside0 (kq ≤ k2) ∧ Aside0 (Kd.R (Kd.int .i64) 3 w' w.heap.size (fun _ => True) (.slice (some ⟨go6, 0, none⟩) x5_2.length co6) x5_3) ∧ Aside0 (Kd.R k37 37 w' w.heap.size (fun _ => True) (.slice Ao25 y113.length co25) y113) ∧ Aside0 (w'.heap[gb103]? = some (.cells #[(.slice A0_0 l0_0.length c0_0), (.slice (some ad111) l0_1.length c0_1), .int .i64 a0_2, .int .i64 a0_3, .int .i64 a0_4, .int .i64 a0_5, .int .i64 a0_6, .int .i64 a0_7, .int .i64 a0_8, .int .i64 a0_9, .int .i64 a0_10, .int .i64 a0_11, .int .i64 a0_12] 25 (0, 0))) ∧ Aside0 (w'.heap[gb112]? = some (.cells #[.int .i64 ((rd_T39 l0_1 x26_2).f0), .int .i64 ((rd_T39 l0_1 x26_2).f1), .int .i64 ((rd_T39 l0_1 x26_2).f2.f0), .int .i64 ((rd_T39 l0_1 x26_2).f2.f1), .int .i64 ((rd_T39 l0_1 x26_2).f3.f0), .int .i64 ((rd_T39 l0_1 x26_2).f3.f1)] 39 (0, 0))) ∧ Aside0 (Below w.heap.size w w'))
           case atStart => exact ⟨(x5_2), (x7_2), (0), bx, bx, H', ⟨Nat.le_refl _⟩, ⟨by (try simp only [hl5_1]); (try simp only [hl5_2]); (with_reducible repeat (first | apply Kd.R_alloc | apply Kd.R_drewN | apply Kd.R_drew)); exact HO_5.out⟩, ⟨by (try simp only [hl5_1]); (try simp only [hl5_2]); (with_reducible repeat (first | apply Kd.R_alloc | apply Kd.R_drewN | apply Kd.R_drew)); exact HO115.out⟩, ⟨by (try simp only [hl5_1]); (try simp only [hl5_2]); exact bk BK103⟩, ⟨by (try simp only [hl5_1]); (try simp only [hl5_2]); exact bk BK112⟩, ⟨bl2 GE103 GE112⟩⟩
           case round =>
            clear H'
            try clear c1
            try clear p1
            try clear q1
            try clear hx1
            try clear c2
            try clear p2
            try clear c4
            try clear c4b0
            try clear c5
            try clear c5b0
            try clear p6
            try clear q6
            try clear hx6
            try clear hf6
            try clear p11
            try clear q11
            try clear hx11
            try clear c15
            try clear c16
            try clear c17
            try clear c17b0
            try clear c18
            try clear c18b0
            try clear c19
            try clear c19b0
            try clear c21
            try clear c24
            try clear hcz10_0 hcz10_1 hcz10_10 hcz10_11 hcz10_12 hcz10_2 hcz10_3 hcz10_4 hcz10_5 hcz10_6 hcz10_7 hcz10_8 hcz10_9
            try clear hcz16_0 hcz16_1 hcz16_10 hcz16_11 hcz16_12 hcz16_2 hcz16_3 hcz16_4 hcz16_5 hcz16_6 hcz16_7 hcz16_8 hcz16_9
            try clear hcz22_0 hcz22_1 hcz22_2 hcz22_3 hcz22_4 hcz22_5
            try clear hfz10_0 hfz10_1 hfz10_10 hfz10_11 hfz10_12 hfz10_2 hfz10_3 hfz10_4 hfz10_5 hfz10_6 hfz10_7 hfz10_8 hfz10_9
            try clear hfz16_0 hfz16_1 hfz16_10 hfz16_11 hfz16_12 hfz16_2 hfz16_3 hfz16_4 hfz16_5 hfz16_6 hfz16_7 hfz16_8 hfz16_9
            try clear hfz22_0 hfz22_1 hfz22_2 hfz22_3 hfz22_4 hfz22_5
            try clear hx111_0
            try clear hx111_1
            try clear hx111_2
            try clear hx111_3
            try clear hx111_4
            try clear hx111_5
            try clear hx6_0
            try clear p111
            try clear p2
            try clear p6
            try clear q111
            try clear q6
            obtain ⟨x5_3, x7_3, x42_3, rfl, rfl, HA, HK3, HO_5, HO_40, BK103, BK112, HB⟩ := hrel
            have hl5_3 := (Kd.R_reads' HO_5.out).1
            rw [hl5_3] at HO_5
            (try simp only [hl5_3])
            (try simp only [hl5_3] at BK103)
            (try simp only [hl5_3] at BK112)
            (try simp only [hl5_3] at HO_40)
            cases gk with
            | zero => exact absurd HA.out (by simp [plan_Dists.l2])
            | succ k3 =>
             have H := HA.out
             clear HA
             simp only [plan_Dists.l2] at H
             by_cases c26 : x42_3 < (y113.length : Int)
             ·rw [if_pos c26] at H
              have c26b0 : decide (x42_3 < (y113.length : Int)) = true := dT c26
              clear c26
              by_cases c27 : 0 ≤ x42_3
              ·rw [if_pos c27] at H
               have c27b0 : decide (0 ≤ x42_3) = true := dT c27
               clear c27
               by_cases c28 : x42_3 < (y113.length : Int)
               ·rw [if_pos c28] at H
                have c28b0 : decide (x42_3 < (y113.length : Int)) = true := dT c28
                clear c28
                by_cases c29 : 0 ≤ ((rd_T37 y113 x42_3).f0)
                ·rw [if_pos c29] at H
                 have c29b0 : decide (0 ≤ ((rd_T37 y113 x42_3).f0)) = true := dT c29
                 clear c29
                 by_cases c30 : ((rd_T37 y113 x42_3).f0) < (x5_3.length : Int)
                 ·rw [if_pos c30] at H
                  have c30b0 : decide (((rd_T37 y113 x42_3).f0) < (x5_3.length : Int)) = true := dT c30
                  clear c30
                  by_cases c31 : (rd x5_3 ((rd_T37 y113 x42_3).f0)) = x6_1
                  ·rw [if_pos c31] at H
                   have c31b0 : ((rd x5_3 ((rd_T37 y113 x42_3).f0)) == x6_1) = true := beq_iff_eq.mpr c31
                   have c31b1 : ((rd x5_3 ((rd_T37 y113 x42_3).f0)) != x6_1) = false := bne_eq_false_iff_eq.mpr c31
                   clear c31
                   by_cases c32 : 0 ≤ ((rd_T37 y113 x42_3).f1)
                   ·rw [if_pos c32] at H
                    have c32b0 : decide (0 ≤ ((rd_T37 y113 x42_3).f1)) = true := dT c32
                    clear c32
                    by_cases c33 : ((rd_T37 y113 x42_3).f1) < (x5_3.length : Int)
                    ·rw [if_pos c33] at H
                     have c33b0 : decide (((rd_T37 y113 x42_3).f1) < (x5_3.length : Int)) = true := dT c33
                     clear c33
                     by_cases c34 : (rd x5_3 ((rd_T37 y113 x42_3).f1)) < 0
                     ·rw [if_pos c34] at H
                      have c34b0 : decide ((rd x5_3 ((rd_T37 y113 x42_3).f1)) < 0) = true := dT c34
                      clear c34
                      obtain ⟨y120, hy120⟩ : ∃ y_ : List Int, y_ = (x5_3.set (((rd_T37 y113 x42_3).f1) : Int).toNat (wrap64 (x6_1 + 1))) := ⟨_, rfl⟩
                      replace H : (plan_Dists.l2 k3 y120 x6_1 true l0_1 (l0_1.length : Int) x26_2 y113 (y113.length : Int) (wrap64 (x42_3 + 1)) l0_0 l0_1 a0_2 a0_3 a0_4 a0_5 a0_6 a0_7 a0_8 a0_9 a0_10 a0_11 a0_12) = some r := by first | (rw [hy120]; with_reducible exact H) | (have H2_ := (Option.bind_some _ _).symm.trans H; rw [hy120]; with_reducible exact H2_) | (have H2_ := (Option.bind_some _ _).symm.trans H; with_reducible exact H2_) | with_reducible exact H | (rw [hy120]; exact H) | exact H
                      have Ny120 := am hy120
                      clear hy120
                      have H' := am H
                      clear H
                      have p116 : 0 ≤ (x42_3 : Int) := oT asm
                      have q116 : x42_3 < (y113.length : Int) := oT asm
                      obtain ⟨ad116, e116, hx116_0, hx116_1⟩ := at_T37 (Kd.R_reads' HO_40.out).2.2 x42_3 p116 q116
                      cases e116
                      replace p116 := eq_true p116
                      replace q116 := eq_true q116
                      go_wp2_with (first | ((with_reducible refine gate_dst (N := 11) rfl ?_); refine bxe 11 #[.int .i64 0, .int .i64 0] 37 ?_; intro gb117 hg w36 hbox hb; have n0_ := am (Kd.R_below (kr HO_5.out) hb); have n1_ := am (Kd.R_below (Kd.R_elderB (kr HO_40.out) gb117 (Nat.le_of_eq hg.symm)) hb); have n2_ := am (blk_below (bk BK103) hb); have n3_ := am (blk_below (bk BK112) hb); have n4_ := am (below_step (bl2 GE103 GE112) hb); have n5_ := am (hbox); have n6_ := am (gw2 hg GE103 GE112); have n7_ := am (gw2 hg GE103 GE112); have n8_ := am (nl hg BK103); have n9_ := am (nr hg BK103); have n10_ := am (nl hg BK112); have n11_ := am (nr hg BK112); clear HO_5; clear HO_40; clear BK103; clear BK112; clear HB; have HO_5 := n0_; have HO_40 := n1_; have BK103 := n2_; have BK112 := n3_; have HB := n4_; have BK117 := n5_; have GW117 := n6_; have GE117 := n7_; have NB103_117 := n8_; have NB117_103 := n9_; have NB112_117 := n10_; have NB117_112 := n11_; clear n0_ n1_ n2_ n3_ n4_ n5_ n6_ n7_ n8_ n9_ n10_ n11_; clear hb hbox hg; have hnb37 := NB117_103.out; have hnc37 := NB103_117.out; have hnb38 := NB117_112.out; have hnc38 := NB112_117.out; have hcz39_0 : w36.cell? ⟨gb117, 0, none⟩ = some (.int .i64 0) := (blk_cell BK117.out 0).trans rfl; have hcz39_1 : w36.cell? ⟨gb117, 1, none⟩ = some (.int .i64 0) := (blk_cell BK117.out 1).trans rfl; have hfz39_0 := blk_frozen BK117.out 0; have hfz39_1 := blk_frozen BK117.out 1) | ((with_reducible refine gate_store (t := 37) (p := 11) rfl ?_); refine store_event (t := 37) (p := 11) (v := ?vo_w40) (w1 := ((w36.setCell ⟨gb117, 0, none⟩ (.int .i64 ((rd_T37 y113 x42_3).f0))).setCell ⟨gb117, 1, none⟩ (.int .i64 ((rd_T37 y113 x42_3).f1)))) ?hg ?ho ?hn ?hr ?_; (case ho => rfl); (case hg => rfl); (case hn => rfl); (case hr => first | (go_simp; done) | (go_simp; rfl)); intro w40 hw; have n0_ : Aside0 (Kd.R (Kd.int .i64) 3 w40 w.heap.size (fun _ => True) (.slice (some ⟨go6, 0, none⟩) x5_3.length co6) x5_3) := ⟨(by rw [hw]; exact (by (with_reducible repeat (first | apply Kd.R_alloc | apply Kd.R_drewN | apply Kd.R_drew)); exact Kd.R_mono (Kd.R_far (p := ⟨gb117, 1, none⟩) (Kd.R_far (p := ⟨gb117, 0, none⟩) (Kd.R_types HO_5.out BK117.out (by decide)) (fun _ hk => hk.2) (.int .i64 ((rd_T37 y113 x42_3).f0))) (fun _ hk => hk.2) (.int .i64 ((rd_T37 y113 x42_3).f1))) (fun _ hk => trivial)))⟩; have n1_ : Aside0 (Kd.R k37 37 w40 w.heap.size (fun k_ => k_ ≠ gb117) (.slice (some ad116) y113.length co25) y113) := ⟨(by rw [hw]; exact (by (with_reducible repeat (first | apply Kd.R_alloc | apply Kd.R_drewN | apply Kd.R_drew)); exact Kd.R_mono (Kd.R_far (p := ⟨gb117, 1, none⟩) (Kd.R_far (p := ⟨gb117, 0, none⟩) (Kd.R_mono HO_40.out (fun k_ hk => (⟨hk, hk.2⟩ : _ ∧ k_ ≠ gb117))) (fun _ hk => hk.2) (.int .i64 ((rd_T37 y113 x42_3).f0))) (fun _ hk => hk.2) (.int .i64 ((rd_T37 y113 x42_3).f1))) (fun _ hk => hk.1.2)))⟩; have n2_ : Aside0 (w40.heap[gb103]? = some (.cells #[.slice A0_0 l0_0.length c0_0, .slice (some ad111) l0_1.length c0_1, .int .i64 a0_2, .int .i64 a0_3, .int .i64 a0_4, .int .i64 a0_5, .int .i64 a0_6, .int .i64 a0_7, .int .i64 a0_8, .int .i64 a0_9, .int .i64 a0_10, .int .i64 a0_11, .int .i64 a0_12] 25 (0, 0))) := ⟨(by rw [hw]; exact (by (with_reducible repeat (first | refine blk_drewN ?_ _ | refine blk_drew ?_ | refine blk_alloc ?_ _)); refine blk_far ?_ NB103_117.out _; (with_reducible repeat (first | refine blk_drewN ?_ _ | refine blk_drew ?_ | refine blk_alloc ?_ _)); refine blk_far ?_ NB103_117.out _; exact bk BK103))⟩; have n3_ : Aside0 (w40.heap[gb112]? = some (.cells #[.int .i64 ((rd_T39 l0_1 x26_2).f0), .int .i64 ((rd_T39 l0_1 x26_2).f1), .int .i64 ((rd_T39 l0_1 x26_2).f2.f0), .int .i64 ((rd_T39 l0_1 x26_2).f2.f1), .int .i64 ((rd_T39 l0_1 x26_2).f3.f0), .int .i64 ((rd_T39 l0_1 x26_2).f3.f1)] 39 (0, 0))) := ⟨(by rw [hw]; exact (by (with_reducible repeat (first | refine blk_drewN ?_ _ | refine blk_drew ?_ | refine blk_alloc ?_ _)); refine blk_far ?_ NB112_117.out _; (with_reducible repeat (first | refine blk_drewN ?_ _ | refine blk_drew ?_ | refine blk_alloc ?_ _)); refine blk_far ?_ NB112_117.out _; exact bk BK112))⟩; have n4_ : Aside0 (w40.heap[gb117]? = some (.cells #[.int .i64 ((rd_T37 y113 x42_3).f0), .int .i64 ((rd_T37 y113 x42_3).f1)] 37 (0, 0))) := ⟨(by rw [hw]; exact (by (with_reducible repeat (first | refine blk_drewN ?_ _ | refine blk_drew ?_ | refine blk_alloc ?_ _)); refine blk_put (cs := #[.int .i64 ((rd_T37 y113 x42_3).f0), .int .i64 0]) ?_ 1 _ rfl; (with_reducible repeat (first | refine blk_drewN ?_ _ | refine blk_drew ?_ | refine blk_alloc ?_ _)); refine blk_put (cs := #[.int .i64 0, .int .i64 0]) ?_ 0 _ rfl; exact bk BK117))⟩; have n5_ : Aside0 (Below w.heap.size w w40) := ⟨(by rw [hw]; exact (bl3 GE103 GE112 GE117))⟩; clear hw; clear HO_5; clear HO_40; clear BK103; clear BK112; clear BK117; clear HB; have HO_5 := n0_; have HO_40 := n1_; have BK103 := n2_; have BK112 := n3_; have BK117 := n4_; have HB := n5_; clear n0_ n1_ n2_ n3_ n4_ n5_; have hcz41_0 : w40.cell? ⟨gb117, 0, none⟩ = some (.int .i64 ((rd_T37 y113 x42_3).f0)) := (blk_cell BK117.out 0).trans rfl; have hcz41_1 : w40.cell? ⟨gb117, 1, none⟩ = some (.int .i64 ((rd_T37 y113 x42_3).f1)) := (blk_cell BK117.out 1).trans rfl; have hfz41_0 := blk_frozen BK117.out 0; have hfz41_1 := blk_frozen BK117.out 1; have p118 : 0 ≤ (((rd_T37 y113 x42_3).f0) : Int) := oT asm; have q118 : ((rd_T37 y113 x42_3).f0) < (x5_3.length : Int) := oT asm; obtain ⟨ad118, e118, hx118_0⟩ := Kd.at_int (Kd.R_reads' HO_5.out).2.2 ((rd_T37 y113 x42_3).f0) p118 q118; obtain rfl : (⟨go6, 0, none⟩ : Addr) = ad118 := (by injection e118); (first | simp only [add_plain] at hx118_0 | simp only [add_at] at hx118_0 | simp only [Addr.add, Nat.zero_add] at hx118_0 | skip); replace p118 := eq_true p118; replace q118 := eq_true q118; have p119 : 0 ≤ (((rd_T37 y113 x42_3).f1) : Int) := oT asm; have q119 : ((rd_T37 y113 x42_3).f1) < (x5_3.length : Int) := oT asm; obtain ⟨ad119, e119, hx119_0⟩ := Kd.at_int (Kd.R_reads' HO_5.out).2.2 ((rd_T37 y113 x42_3).f1) p119 q119; obtain rfl : (⟨go6, 0, none⟩ : Addr) = ad119 := (by injection e119); (first | simp only [add_plain] at hx119_0 | simp only [add_at] at hx119_0 | simp only [Addr.add, Nat.zero_add] at hx119_0 | skip); replace p119 := eq_true p119; replace q119 := eq_true q119; have p35 : 0 ≤ (((rd_T37 y113 x42_3).f1) : Int) := oT asm; have q35 : (((rd_T37 y113 x42_3).f1) : Int) < ((x5_3.length : Int) : Int) := oT asm; obtain ⟨hx35_0, hf35_0⟩ := Kd.R_celln 0 HO_5.out (((rd_T37 y113 x42_3).f1) : Int) p35 q35; replace p35 := eq_true p35; replace q35 := eq_true q35; obtain ⟨hy42_, hz42_⟩ := Kd.R_celln 0 HO_5.out (((rd_T37 y113 x42_3).f1) : Int) (oT asm) (oT asm); have HP42 := Kd.R_putg HO_5.out (((rd_T37 y113 x42_3).f1) : Int) (wrap64 (x6_1 + 1))) | ((with_reducible refine gate_store (t := 3) (p := 66) rfl ?_); refine store_event (t := 3) (p := 66) (v := ?vo_w43) (w1 := (w40.setCell ⟨go6, (((rd_T37 y113 x42_3).f1) : Int).toNat, none⟩ (.int .i64 (wrap64 (x6_1 + 1))))) ?hg ?ho ?hn ?hr ?_; (case ho => rfl); (case hg => rfl); (case hn => rfl); (case hr => first | (go_simp; done) | (go_simp; rfl)); intro w43 hw; have hg : w40.grownBy w43 (some go6) := (by rw [hw]; exact HP42.2); have hp_ : Kd.R (Kd.int .i64) 3 w43 w.heap.size (fun _ => True) (.slice (some ⟨go6, 0, none⟩) x5_3.length co6) y120 := (by rw [hw, Ny120.out]; exact HP42.1); clear HP42; have n0_ := am (hp_); have n1_ := am (Kd.R_over' (v := (.slice (some ⟨go6, 0, none⟩) x5_3.length co6)) (kr HO_40.out) (Kd.R_typed HO_5.out) (by decide) hg); have n2_ := am (blk_grown (bk BK103) hg (Kd.R_ne HO_5.out BK103.out (by decide))); have n3_ := am (blk_grown (bk BK112) hg (Kd.R_ne HO_5.out BK112.out (by decide))); have n4_ := am (blk_grown (bk BK117) hg (Kd.R_ne HO_5.out BK117.out (by decide))); have n5_ := am ((by rw [hw]; exact below_set (HB.out) GB6.out : Below w.heap.size w w43)); clear HO_5; clear HO_40; clear BK103; clear BK112; clear BK117; clear HB; have HO_5 := n0_; have HO_40 := n1_; have BK103 := n2_; have BK112 := n3_; have BK117 := n4_; have HB := n5_; clear n0_ n1_ n2_ n3_ n4_ n5_; clear hg hw hp_))
                      (try simp only [← hl5_3])
                      go_roundg k3
                      case measure => have := HK1.out; have := HK2.out; have := HK3.out; omega
                      case rel => exact ⟨(y120), (true), (wrap64 (x42_3 + 1)), bx, bx, H', ⟨by have := HK1.out; have := HK2.out; have := HK3.out; omega⟩, ⟨by (try simp only [hl5_1]); (try simp only [hl5_2]); (try simp only [hl5_3]); (with_reducible repeat (first | apply Kd.R_alloc | apply Kd.R_drewN | apply Kd.R_drew)); exact HO_5.out⟩, ⟨by (try simp only [hl5_1]); (try simp only [hl5_2]); (try simp only [hl5_3]); (with_reducible repeat (first | apply Kd.R_alloc | apply Kd.R_drewN | apply Kd.R_drew)); exact Kd.R_mono HO_40.out (fun _ hk => trivial)⟩, ⟨by (try simp only [hl5_1]); (try simp only [hl5_2]); (try simp only [hl5_3]); exact bk BK103⟩, ⟨by (try simp only [hl5_1]); (try simp only [hl5_2]); (try simp only [hl5_3]); exact bk BK112⟩, ⟨bl3 GE103 GE112 GE117⟩⟩
                     ·rw [if_neg c34] at H
                      have c34b0 : decide ((rd x5_3 ((rd_T37 y113 x42_3).f1)) < 0) = false := dF c34
                      clear c34
                      have H' := am H
                      clear H
                      have p116 : 0 ≤ (x42_3 : Int) := oT asm
                      have q116 : x42_3 < (y113.length : Int) := oT asm
                      obtain ⟨ad116, e116, hx116_0, hx116_1⟩ := at_T37 (Kd.R_reads' HO_40.out).2.2 x42_3 p116 q116
                      cases e116
                      replace p116 := eq_true p116
                      replace q116 := eq_true q116
                      go_wp2_with (first | ((with_reducible refine gate_dst (N := 11) rfl ?_); refine bxe 11 #[.int .i64 0, .int .i64 0] 37 ?_; intro gb117 hg w44 hbox hb; have n0_ := am (Kd.R_below (kr HO_5.out) hb); have n1_ := am (Kd.R_below (Kd.R_elderB (kr HO_40.out) gb117 (Nat.le_of_eq hg.symm)) hb); have n2_ := am (blk_below (bk BK103) hb); have n3_ := am (blk_below (bk BK112) hb); have n4_ := am (below_step (bl2 GE103 GE112) hb); have n5_ := am (hbox); have n6_ := am (gw2 hg GE103 GE112); have n7_ := am (gw2 hg GE103 GE112); have n8_ := am (nl hg BK103); have n9_ := am (nr hg BK103); have n10_ := am (nl hg BK112); have n11_ := am (nr hg BK112); clear HO_5; clear HO_40; clear BK103; clear BK112; clear HB; have HO_5 := n0_; have HO_40 := n1_; have BK103 := n2_; have BK112 := n3_; have HB := n4_; have BK117 := n5_; have GW117 := n6_; have GE117 := n7_; have NB103_117 := n8_; have NB117_103 := n9_; have NB112_117 := n10_; have NB117_112 := n11_; clear n0_ n1_ n2_ n3_ n4_ n5_ n6_ n7_ n8_ n9_ n10_ n11_; clear hb hbox hg; have hnb45 := NB117_103.out; have hnc45 := NB103_117.out; have hnb46 := NB117_112.out; have hnc46 := NB112_117.out; have hcz47_0 : w44.cell? ⟨gb117, 0, none⟩ = some (.int .i64 0) := (blk_cell BK117.out 0).trans rfl; have hcz47_1 : w44.cell? ⟨gb117, 1, none⟩ = some (.int .i64 0) := (blk_cell BK117.out 1).trans rfl; have hfz47_0 := blk_frozen BK117.out 0; have hfz47_1 := blk_frozen BK117.out 1; have p118 : 0 ≤ (((rd_T37 y113 x42_3).f0) : Int) := oT asm; have q118 : ((rd_T37 y113 x42_3).f0) < (x5_3.length : Int) := oT asm; obtain ⟨ad118, e118, hx118_0⟩ := Kd.at_int (Kd.R_reads' HO_5.out).2.2 ((rd_T37 y113 x42_3).f0) p118 q118; obtain rfl : (⟨go6, 0, none⟩ : Addr) = ad118 := (by injection e118); (first | simp only [add_plain] at hx118_0 | simp only [add_at] at hx118_0 | simp only [Addr.add, Nat.zero_add] at hx118_0 | skip); have hn118_0 : (⟨go6, 0, none⟩ : Addr).block ≠ gb117 := Kd.own_blk (Kd.R_ne HO_5.out BK117.out (by decide)); have hn118_1 : (⟨go6, 0, none⟩ : Addr).block ≠ gb117 := Kd.own_blk (Kd.R_ne HO_5.out BK117.out (by decide)); replace hx118_0 := (cell_far (p := ⟨gb117, 0, none⟩) (fn_ hn118_0) (.int .i64 ((rd_T37 y113 x42_3).f0))).trans hx118_0; replace hx118_0 := (cell_far (p := ⟨gb117, 1, none⟩) (fn_ hn118_1) (.int .i64 ((rd_T37 y113 x42_3).f1))).trans hx118_0; clear hn118_0; clear hn118_1; replace p118 := eq_true p118; replace q118 := eq_true q118; have p119 : 0 ≤ (((rd_T37 y113 x42_3).f1) : Int) := oT asm; have q119 : ((rd_T37 y113 x42_3).f1) < (x5_3.length : Int) := oT asm; obtain ⟨ad119, e119, hx119_0⟩ := Kd.at_int (Kd.R_reads' HO_5.out).2.2 ((rd_T37 y113 x42_3).f1) p119 q119; obtain rfl : (⟨go6, 0, none⟩ : Addr) = ad119 := (by injection e119); (first | simp only [add_plain] at hx119_0 | simp only [add_at] at hx119_0 | simp only [Addr.add, Nat.zero_add] at hx119_0 | skip); have hn119_0 : (⟨go6, 0, none⟩ : Addr).block ≠ gb117 := Kd.own_blk (Kd.R_ne HO_5.out BK117.out (by decide)); have hn119_1 : (⟨go6, 0, none⟩ : Addr).block ≠ gb117 := Kd.own_blk (Kd.R_ne HO_5.out BK117.out (by decide)); replace hx119_0 := (cell_far (p := ⟨gb117, 0, none⟩) (fn_ hn119_0) (.int .i64 ((rd_T37 y113 x42_3).f0))).trans hx119_0; replace hx119_0 := (cell_far (p := ⟨gb117, 1, none⟩) (fn_ hn119_1) (.int .i64 ((rd_T37 y113 x42_3).f1))).trans hx119_0; clear hn119_0; clear hn119_1; replace p119 := eq_true p119; replace q119 := eq_true q119))
                      (try simp only [← hl5_3])
                      go_roundg k3
                      case measure => have := HK1.out; have := HK2.out; have := HK3.out; omega
                      case rel => exact ⟨(x5_3), (x7_3), (wrap64 (x42_3 + 1)), bx, bx, H', ⟨by have := HK1.out; have := HK2.out; have := HK3.out; omega⟩, ⟨by (try simp only [hl5_1]); (try simp only [hl5_2]); (try simp only [hl5_3]); (with_reducible repeat (first | apply Kd.R_alloc | apply Kd.R_drewN | apply Kd.R_drew)); exact Kd.R_mono (Kd.R_far (p := ⟨gb117, 1, none⟩) (Kd.R_far (p := ⟨gb117, 0, none⟩) (Kd.R_types HO_5.out BK117.out (by decide)) (fun _ hk => hk.2) (.int .i64 ((rd_T37 y113 x42_3).f0))) (fun _ hk => hk.2) (.int .i64 ((rd_T37 y113 x42_3).f1))) (fun _ hk => trivial)⟩, ⟨by (try simp only [hl5_1]); (try simp only [hl5_2]); (try simp only [hl5_3]); (with_reducible repeat (first | apply Kd.R_alloc | apply Kd.R_drewN | apply Kd.R_drew)); exact Kd.R_mono (Kd.R_far (p := ⟨gb117, 1, none⟩) (Kd.R_far (p := ⟨gb117, 0, none⟩) (Kd.R_mono HO_40.out (fun k_ hk => (⟨hk, hk.2⟩ : _ ∧ k_ ≠ gb117))) (fun _ hk => hk.2) (.int .i64 ((rd_T37 y113 x42_3).f0))) (fun _ hk => hk.2) (.int .i64 ((rd_T37 y113 x42_3).f1))) (fun _ hk => trivial)⟩, ⟨by (try simp only [hl5_1]); (try simp only [hl5_2]); (try simp only [hl5_3]); (with_reducible repeat (first | refine blk_drewN ?_ _ | refine blk_drew ?_ | refine blk_alloc ?_ _)); refine blk_far ?_ NB103_117.out _; (with_reducible repeat (first | refine blk_drewN ?_ _ | refine blk_drew ?_ | refine blk_alloc ?_ _)); refine blk_far ?_ NB103_117.out _; exact bk BK103⟩, ⟨by (try simp only [hl5_1]); (try simp only [hl5_2]); (try simp only [hl5_3]); (with_reducible repeat (first | refine blk_drewN ?_ _ | refine blk_drew ?_ | refine blk_alloc ?_ _)); refine blk_far ?_ NB112_117.out _; (with_reducible repeat (first | refine blk_drewN ?_ _ | refine blk_drew ?_ | refine blk_alloc ?_ _)); refine blk_far ?_ NB112_117.out _; exact bk BK112⟩, ⟨bl3 GE103 GE112 GE117⟩⟩
                    ·rw [if_neg c33] at H
                     exact absurd H (by simp)
                   ·rw [if_neg c32] at H
                    exact absurd H (by simp)
                  ·rw [if_neg c31] at H
                   have c31b0 : ((rd x5_3 ((rd_T37 y113 x42_3).f0)) == x6_1) = false := beq_eq_false_iff_ne.mpr c31
                   have c31b1 : ((rd x5_3 ((rd_T37 y113 x42_3).f0)) != x6_1) = true := bne_iff_ne.mpr c31
                   have H' := am H
                   clear H
                   have p116 : 0 ≤ (x42_3 : Int) := oT asm
                   have q116 : x42_3 < (y113.length : Int) := oT asm
                   obtain ⟨ad116, e116, hx116_0, hx116_1⟩ := at_T37 (Kd.R_reads' HO_40.out).2.2 x42_3 p116 q116
                   cases e116
                   replace p116 := eq_true p116
                   replace q116 := eq_true q116
                   go_wp2_with (first | ((with_reducible refine gate_dst (N := 11) rfl ?_); refine bxe 11 #[.int .i64 0, .int .i64 0] 37 ?_; intro gb117 hg w48 hbox hb; have n0_ := am (Kd.R_below (kr HO_5.out) hb); have n1_ := am (Kd.R_below (Kd.R_elderB (kr HO_40.out) gb117 (Nat.le_of_eq hg.symm)) hb); have n2_ := am (blk_below (bk BK103) hb); have n3_ := am (blk_below (bk BK112) hb); have n4_ := am (below_step (bl2 GE103 GE112) hb); have n5_ := am (hbox); have n6_ := am (gw2 hg GE103 GE112); have n7_ := am (gw2 hg GE103 GE112); have n8_ := am (nl hg BK103); have n9_ := am (nr hg BK103); have n10_ := am (nl hg BK112); have n11_ := am (nr hg BK112); clear HO_5; clear HO_40; clear BK103; clear BK112; clear HB; have HO_5 := n0_; have HO_40 := n1_; have BK103 := n2_; have BK112 := n3_; have HB := n4_; have BK117 := n5_; have GW117 := n6_; have GE117 := n7_; have NB103_117 := n8_; have NB117_103 := n9_; have NB112_117 := n10_; have NB117_112 := n11_; clear n0_ n1_ n2_ n3_ n4_ n5_ n6_ n7_ n8_ n9_ n10_ n11_; clear hb hbox hg; have hnb49 := NB117_103.out; have hnc49 := NB103_117.out; have hnb50 := NB117_112.out; have hnc50 := NB112_117.out; have hcz51_0 : w48.cell? ⟨gb117, 0, none⟩ = some (.int .i64 0) := (blk_cell BK117.out 0).trans rfl; have hcz51_1 : w48.cell? ⟨gb117, 1, none⟩ = some (.int .i64 0) := (blk_cell BK117.out 1).trans rfl; have hfz51_0 := blk_frozen BK117.out 0; have hfz51_1 := blk_frozen BK117.out 1; have p118 : 0 ≤ (((rd_T37 y113 x42_3).f0) : Int) := oT asm; have q118 : ((rd_T37 y113 x42_3).f0) < (x5_3.length : Int) := oT asm; obtain ⟨ad118, e118, hx118_0⟩ := Kd.at_int (Kd.R_reads' HO_5.out).2.2 ((rd_T37 y113 x42_3).f0) p118 q118; obtain rfl : (⟨go6, 0, none⟩ : Addr) = ad118 := (by injection e118); (first | simp only [add_plain] at hx118_0 | simp only [add_at] at hx118_0 | simp only [Addr.add, Nat.zero_add] at hx118_0 | skip); have hn118_0 : (⟨go6, 0, none⟩ : Addr).block ≠ gb117 := Kd.own_blk (Kd.R_ne HO_5.out BK117.out (by decide)); have hn118_1 : (⟨go6, 0, none⟩ : Addr).block ≠ gb117 := Kd.own_blk (Kd.R_ne HO_5.out BK117.out (by decide)); replace hx118_0 := (cell_far (p := ⟨gb117, 0, none⟩) (fn_ hn118_0) (.int .i64 ((rd_T37 y113 x42_3).f0))).trans hx118_0; replace hx118_0 := (cell_far (p := ⟨gb117, 1, none⟩) (fn_ hn118_1) (.int .i64 ((rd_T37 y113 x42_3).f1))).trans hx118_0; clear hn118_0; clear hn118_1; replace p118 := eq_true p118; replace q118 := eq_true q118))
                   (try simp only [← hl5_3])
                   go_roundg k3
                   case measure => have := HK1.out; have := HK2.out; have := HK3.out; omega
                   case rel => exact ⟨(x5_3), (x7_3), (wrap64 (x42_3 + 1)), bx, bx, H', ⟨by have := HK1.out; have := HK2.out; have := HK3.out; omega⟩, ⟨by (try simp only [hl5_1]); (try simp only [hl5_2]); (try simp only [hl5_3]); (with_reducible repeat (first | apply Kd.R_alloc | apply Kd.R_drewN | apply Kd.R_drew)); exact Kd.R_mono (Kd.R_far (p := ⟨gb117, 1, none⟩) (Kd.R_far (p := ⟨gb117, 0, none⟩) (Kd.R_types HO_5.out BK117.out (by decide)) (fun _ hk => hk.2) (.int .i64 ((rd_T37 y113 x42_3).f0))) (fun _ hk => hk.2) (.int .i64 ((rd_T37 y113 x42_3).f1))) (fun _ hk => trivial)⟩, ⟨by (try simp only [hl5_1]); (try simp only [hl5_2]); (try simp only [hl5_3]); (with_reducible repeat (first | apply Kd.R_alloc | apply Kd.R_drewN | apply Kd.R_drew)); exact Kd.R_mono (Kd.R_far (p := ⟨gb117, 1, none⟩) (Kd.R_far (p := ⟨gb117, 0, none⟩) (Kd.R_mono HO_40.out (fun k_ hk => (⟨hk, hk.2⟩ : _ ∧ k_ ≠ gb117))) (fun _ hk => hk.2) (.int .i64 ((rd_T37 y113 x42_3).f0))) (fun _ hk => hk.2) (.int .i64 ((rd_T37 y113 x42_3).f1))) (fun _ hk => trivial)⟩, ⟨by (try simp only [hl5_1]); (try simp only [hl5_2]); (try simp only [hl5_3]); (with_reducible repeat (first | refine blk_drewN ?_ _ | refine blk_drew ?_ | refine blk_alloc ?_ _)); refine blk_far ?_ NB103_117.out _; (with_reducible repeat (first | refine blk_drewN ?_ _ | refine blk_drew ?_ | refine blk_alloc ?_ _)); refine blk_far ?_ NB103_117.out _; exact bk BK103⟩, ⟨by (try simp only [hl5_1]); (try simp only [hl5_2]); (try simp only [hl5_3]); (with_reducible repeat (first | refine blk_drewN ?_ _ | refine blk_drew ?_ | refine blk_alloc ?_ _)); refine blk_far ?_ NB112_117.out _; (with_reducible repeat (first | refine blk_drewN ?_ _ | refine blk_drew ?_ | refine blk_alloc ?_ _)); refine blk_far ?_ NB112_117.out _; exact bk BK112⟩, ⟨bl3 GE103 GE112 GE117⟩⟩
                 ·rw [if_neg c30] at H
                  exact absurd H (by simp)
                ·rw [if_neg c29] at H
                 exact absurd H (by simp)
               ·rw [if_neg c28] at H
                exact absurd H (by simp)
              ·rw [if_neg c27] at H
               exact absurd H (by simp)
             ·rw [if_neg c26] at H
              have c26b0 : decide (x42_3 < (y113.length : Int)) = false := dF c26
              clear c26
              have H' := am H
              clear H
              go_wp2
              (try simp only [← hl5_2, ← hl5_3])
              go_roundg k3
              case measure => have := HK1.out; have := HK2.out; have := HK3.out; omega
              case rel => exact ⟨(x5_3), (x7_3), (wrap64 (x26_2 + 1)), bx, bx, H', ⟨by have := HK1.out; have := HK2.out; have := HK3.out; omega⟩, ⟨by (try simp only [hl5_1]); (try simp only [hl5_2]); (try simp only [hl5_3]); (with_reducible repeat (first | apply Kd.R_alloc | apply Kd.R_drewN | apply Kd.R_drew)); exact HO_5.out⟩, ⟨by (try simp only [hl5_1]); (try simp only [hl5_2]); (try simp only [hl5_3]); exact bk BK103⟩, ⟨bl2 GE103 GE112⟩⟩
          ·rw [if_neg c19] at H
           exact absurd H (by simp)
         ·rw [if_neg c18] at H
          exact absurd H (by simp)
        ·rw [if_neg c17] at H
         have c17b0 : decide (x26_2 < (l0_1.length : Int)) = false := dF c17
         clear c17
         have H' := am H
         clear H
         go_wp2
         (try simp only [← hl5_1, ← hl5_2])
         go_roundg k2
         case measure => have := HK1.out; have := HK2.out; omega
         case rel => exact ⟨(x5_2), (wrap64 (x6_1 + 1)), (x7_2), bx, bx, H', ⟨by have := HK1.out; have := HK2.out; omega⟩, ⟨by (try simp only [hl5_1]); (try simp only [hl5_2]); (with_reducible repeat (first | apply Kd.R_alloc | apply Kd.R_drewN | apply Kd.R_drew)); exact HO_5.out⟩, ⟨by (try simp only [hl5_1]); (try simp only [hl5_2]); exact bk BK103⟩, ⟨bl1 GE103⟩⟩
     ·replace c15 := Bool.eq_false_iff.mpr c15
      subst c15
      have H1 : (some x5_1) = some r := by rw [if_neg (show ¬ (false = true) by decide)] at H; exact H
      clear H
      have H := H1
      clear H1
      obtain rfl := Option.some.inj H
      go_wp2
      go_ret
      exact ⟨_, ew, kr HO_5.out, bl1 GE103⟩
  ·rw [if_neg c5] at H
   exact absurd H (by simp)
 ·rw [if_neg c4] at H
  exact absurd H (by simp)
end Go.Proofs.YtbefbhghmommhaaDoor.MWo
