/- Texts of this claim, laid together by a program (wip/g/merge3.py): MWox96. -/
import Derived.Test.YtbefbhghmommhaaGreatDoorZWb3
import Derived.Test.YtbefbhghmommhaaGreatDoorZWb18
namespace Go.Proofs.YtbefbhghmommhaaGreatDoor.MWo
open Go.RowKit Go.Proofs.YtbefbhghmommhaaGreatDoorW.PrintWords Go.Proofs.YtbefbhghmommhaaGreatDoorW.PrintLast Go.Proofs.YtbefbhghmommhaaGreatDoorW.PrintMore
attribute [local go_sem] mp_u32s mp_u32m mp_u8s mp_u8m max2_int min2_int max_two min_two max_three min_three max_four min_four
set_option linter.unusedVariables false
set_option linter.unusedSimpArgs false
def dl19_whole.l0 : Nat → List Int → List Int → Int → List (S68) → List (S71) → Int → Int → Int → Int → Int → Int → Int → Int → Int → Int → Int → Option (List Int)
 | 0, _, _, _, _, _, _, _, _, _, _, _, _, _, _, _, _ => none
 | k + 1, x1, x5, x6, x354000, x354001, x354002, x354003, x354004, x354005, x354006, x354007, x354008, x354009, x354010, x354011, x354012 => if x6 < (x354000.length : Int) then (if x6 < (x1.length : Int) then (if 0 ≤ x6 then ((dr5_Gone.f x354000 x354001 x354002 x354003 x354004 x354005 x354006 x354007 x354008 x354009 x354010 x354011 x354012).bind fun t355 => (if x5.length < 17592186044416 then (dl19_whole.l0 k x1 (x5 ++ [mn (mx (rd x1 x6) 0) t355]) (wrap64 (x6 + 1)) x354000 x354001 x354002 x354003 x354004 x354005 x354006 x354007 x354008 x354009 x354010 x354011 x354012) else (none))) else (none)) else (if x5.length < 17592186044416 then (dl19_whole.l0 k x1 (x5 ++ [1]) (wrap64 (x6 + 1)) x354000 x354001 x354002 x354003 x354004 x354005 x354006 x354007 x354008 x354009 x354010 x354011 x354012) else (none))) else (some x5)
def dl19_whole.f (k : Nat) (l0_0 : List (S68)) (l0_1 : List (S71)) (a0_2 : Int) (a0_3 : Int) (a0_4 : Int) (a0_5 : Int) (a0_6 : Int) (a0_7 : Int) (a0_8 : Int) (a0_9 : Int) (a0_10 : Int) (a0_11 : Int) (a0_12 : Int) (l1 : List Int) : Option (List Int) := dl19_whole.l0 k l1 ([] : List Int) 0 l0_0 l0_1 a0_2 a0_3 a0_4 a0_5 a0_6 a0_7 a0_8 a0_9 a0_10 a0_11 a0_12
def dl19_whole.T7 : Bool × List (List Nat × List Nat) := (true, [([], []), ([], []), ([0, 1], [0, 1]), ([2], [2]), ([3], [3]), ([], []), ([5], [5]), ([4, 6], [4, 6]), ([7, 6, 0, 1, 2, 3, 4, 5, 6, 7], [7])])
def dl19_whole.B7 : List Nat := [0, 0, 3, 7, 15, 0, 32, 127, 255]
theorem dl19_whole.tab7 : rtab .any (opsOf Tryz.f41 7) = dl19_whole.T7 := by kernel_rfl
theorem dl19_whole.bits7 : waitsOk dl19_whole.T7.2 dl19_whole.B7 = true := by kernel_rfl
set_option maxHeartbeats 8000000 in
set_option maxRecDepth 100000 in
theorem dl19_whole.calls (k : Nat) (A0_0 : Option Addr) (c0_0 : Nat) (l0_0 : List (S68)) (A0_1 : Option Addr) (c0_1 : Nat) (l0_1 : List (S71)) (a0_2 : Int) (a0_3 : Int) (a0_4 : Int) (a0_5 : Int) (a0_6 : Int) (a0_7 : Int) (a0_8 : Int) (a0_9 : Int) (a0_10 : Int) (a0_11 : Int) (a0_12 : Int) (A1 : Option Addr) (c1 : Nat) (l1 : List Int) (r : List Int) (w : World) (hr0_0 : Kd.C k68 w A0_0 l0_0.length l0_0) (hc0_0 : l0_0.length ≤ c0_0) (hr0_1 : Kd.C k71 w A0_1 l0_1.length l0_1) (hc0_1 : l0_1.length ≤ c0_1) (hr1 : Kd.C (Kd.int .i64) w A1 l1.length l1) (hc1 : l1.length ≤ c1) (h : dl19_whole.f k l0_0 l0_1 a0_2 a0_3 a0_4 a0_5 a0_6 a0_7 a0_8 a0_9 a0_10 a0_11 a0_12 l1 = some r) :
  Calls Tryz.prog 41 #[.agg #[.slice A0_0 l0_0.length c0_0, .slice A0_1 l0_1.length c0_1, .int .i64 a0_2, .int .i64 a0_3, .int .i64 a0_4, .int .i64 a0_5, .int .i64 a0_6, .int .i64 a0_7, .int .i64 a0_8, .int .i64 a0_9, .int .i64 a0_10, .int .i64 a0_11, .int .i64 a0_12], .slice A1 l1.length c1] w fun e w' => ∃ v0_ : Value, e = .returned (v0_) ∧ Kd.R (Kd.int .i64) 3 w' w.heap.size (fun _ => True) v0_ r ∧ Below w.heap.size w w' := by
 have hu25 := Tryz.underlying25
 have HR0_0 := am hr0_0
 have HC0_0 := am hc0_0
 clear hr0_0 hc0_0
 have HR0_1 := am hr0_1
 have HC0_1 := am hc0_1
 clear hr0_1 hc0_1
 have HR1 := am hr1
 have HC1 := am hc1
 clear hr1 hc1
 have HB := am (Below.refl w.heap.size w)
 have H : (dl19_whole.l0 k l1 ([] : List Int) 0 l0_0 l0_1 a0_2 a0_3 a0_4 a0_5 a0_6 a0_7 a0_8 a0_9 a0_10 a0_11 a0_12) = some r := h
 clear h
 have H' := am H
 clear H
 go_enter Tryz.func41, Tryz.ntmps41
 go_wp2_with (first | ((with_reducible refine gate_dst (N := 2) rfl ?_); refine box_event ?hg (N := 2) ?hd (cs := #[.slice A0_0 l0_0.length c0_0, .slice A0_1 l0_1.length c0_1, .int .i64 a0_2, .int .i64 a0_3, .int .i64 a0_4, .int .i64 a0_5, .int .i64 a0_6, .int .i64 a0_7, .int .i64 a0_8, .int .i64 a0_9, .int .i64 a0_10, .int .i64 a0_11, .int .i64 a0_12]) (t := 25) ?hr ?_; (case hd => rfl); (case hg => rfl); (case hr => first | (go_simp; done) | (go_simp; rfl)); intro gb353 hg w3 hbox hb; have n0_ := am (below_step (by repeat (first | (with_reducible first | exact HB.out | apply below_alloc | apply pw_below_drewN | apply below_drew1) | exact HB.out)) hb); have n1_ := am (hbox); have n2_ := am ((by rw [hg]; exact (below_size (by repeat (first | (with_reducible first | exact HB.out | apply below_alloc | apply pw_below_drewN | apply below_drew1) | exact HB.out))) : w.heap.size ≤ gb353)); have n3_ := am ((by rw [hg]; exact (below_size (by repeat (first | (with_reducible first | exact HB.out | apply below_alloc | apply pw_below_drewN | apply below_drew1) | exact HB.out))) : w.heap.size ≤ gb353)); clear HB; have HB := n0_; have BK353 := n1_; have GW353 := n2_; have GE353 := n3_; clear n0_ n1_ n2_ n3_; clear hb hbox hg))
 go_loopg [5, 6] k (fun kq v5 v6 w' => ∃ (x5_1 : List Int) (x6_1 : Int), v6 = .int .i64 x6_1 ∧ Aside0 (dl19_whole.l0 kq l1 x5_1 x6_1 l0_0 l0_1 a0_2 a0_3 a0_4 a0_5 a0_6 a0_7 a0_8 a0_9 a0_10 a0_11 a0_12 = some r) ∧ Aside0 (kq ≤ k) ∧ Aside0 (Kd.R (Kd.int .i64) 3 w' w.heap.size (fun _ => True) v5 x5_1) ∧ Aside0 (w'.heap[gb353]? = some (.cells #[(.slice A0_0 l0_0.length c0_0), (.slice A0_1 l0_1.length c0_1), .int .i64 a0_2, .int .i64 a0_3, .int .i64 a0_4, .int .i64 a0_5, .int .i64 a0_6, .int .i64 a0_7, .int .i64 a0_8, .int .i64 a0_9, .int .i64 a0_10, .int .i64 a0_11, .int .i64 a0_12] 25 (0, 0))) ∧ Aside0 (Below w.heap.size w w'))
 case atStart => exact ⟨(([] : List Int)), (0), (by first | rfl | (simp; done) | (simp [*]; done) | (have := TNA.out; unfold wrap64; congr 1; omega) | (unfold wrap64; omega)), H', ⟨Nat.le_refl _⟩, ⟨by first | exact Kd.R_nil _ _ _ _ _ | exact Kd.N_nil _ _ _ _ _ | exact Kd.V_nil _ _ _ _ _ | exact Kd.Q_nil _ _ _ _ _ | exact Kd.S_nil _ _ _ _ _⟩, ⟨by (with_reducible repeat (first | refine blk_drewN ?_ _ | refine blk_drew ?_ | refine blk_alloc ?_ _)); exact BK353.out⟩, ⟨by repeat (first | (with_reducible first | exact HB.out | apply below_alloc | apply pw_below_drewN | apply below_drew1 | refine below_set ?_ GE353.out) | exact HB.out)⟩⟩
 case round =>
  clear H'
  try clear c1
  try clear p2
  obtain ⟨x5_1, x6_1, rfl, HA, HK1, HO_5, BK353, HB⟩ := hrel
  cases gk with
  | zero => exact absurd HA.out (by simp [dl19_whole.l0])
  | succ k1 =>
   have H := HA.out
   clear HA
   simp only [dl19_whole.l0] at H
   by_cases c4 : x6_1 < (l0_0.length : Int)
   ·rw [if_pos c4] at H
    have c4b0 : decide (x6_1 < (l0_0.length : Int)) = true := decide_eq_true c4
    clear c4
    by_cases c5 : x6_1 < (l1.length : Int)
    ·rw [if_pos c5] at H
     have c5b0 : decide (x6_1 < (l1.length : Int)) = true := decide_eq_true c5
     clear c5
     by_cases c6 : 0 ≤ x6_1
     ·rw [if_pos c6] at H
      have c6b0 : decide (0 ≤ x6_1) = true := decide_eq_true c6
      clear c6
      obtain ⟨ji7, hji7⟩ : ∃ j_ : Int, (mx (rd l1 x6_1) 0) = j_ := ⟨_, rfl⟩
      replace H : ((dr5_Gone.f l0_0 l0_1 a0_2 a0_3 a0_4 a0_5 a0_6 a0_7 a0_8 a0_9 a0_10 a0_11 a0_12).bind fun t355 => (if x5_1.length < 17592186044416 then (dl19_whole.l0 k1 l1 (x5_1 ++ [mn (ji7) t355]) (wrap64 (x6_1 + 1)) l0_0 l0_1 a0_2 a0_3 a0_4 a0_5 a0_6 a0_7 a0_8 a0_9 a0_10 a0_11 a0_12) else (none))) = some r := by first | (rw [hji7] at H; exact H) | (simp only [hji7] at H ⊢; exact H)
      have hji7_ : (if (rd l1 x6_1) < 0 then 0 else (rd l1 x6_1)) = ji7 := hji7
      replace H := Option.bind_eq_some_iff.mp H
      obtain ⟨t355, A80, H⟩ := H
      replace H : (if x5_1.length < 17592186044416 then (dl19_whole.l0 k1 l1 (x5_1 ++ [mn (ji7) t355]) (wrap64 (x6_1 + 1)) l0_0 l0_1 a0_2 a0_3 a0_4 a0_5 a0_6 a0_7 a0_8 a0_9 a0_10 a0_11 a0_12) else (none)) = some r := H
      have A8 := am A80
      clear A80
      obtain ⟨ji9, hji9⟩ : ∃ j_ : Int, (mn (ji7) t355) = j_ := ⟨_, rfl⟩
      replace H : (if x5_1.length < 17592186044416 then (dl19_whole.l0 k1 l1 (x5_1 ++ [ji9]) (wrap64 (x6_1 + 1)) l0_0 l0_1 a0_2 a0_3 a0_4 a0_5 a0_6 a0_7 a0_8 a0_9 a0_10 a0_11 a0_12) else (none)) = some r := by first | (rw [hji9] at H; exact H) | (simp only [hji9] at H ⊢; exact H)
      (try rw [hji9] at A8)
      have hji9_ : (if t355 < (ji7) then t355 else (ji7)) = ji9 := hji9
      by_cases c10 : x5_1.length < 17592186044416
      ·rw [if_pos c10] at H
       have LMc10 := am c10
       clear c10
       obtain ⟨y356, hy356⟩ : ∃ y_ : List Int, y_ = (x5_1 ++ [ji9]) := ⟨_, rfl⟩
       replace H : (dl19_whole.l0 k1 l1 y356 (wrap64 (x6_1 + 1)) l0_0 l0_1 a0_2 a0_3 a0_4 a0_5 a0_6 a0_7 a0_8 a0_9 a0_10 a0_11 a0_12) = some r := by first | (rw [hy356]; with_reducible exact H) | (have H2_ := (Option.bind_some _ _).symm.trans H; rw [hy356]; with_reducible exact H2_) | (have H2_ := (Option.bind_some _ _).symm.trans H; with_reducible exact H2_) | with_reducible exact H | (rw [hy356]; exact H) | exact H
       have Ny356 := am hy356
       clear hy356
       have H' := am H
       clear H
       obtain ⟨hcz11_0, hcz11_1, hcz11_2, hcz11_3, hcz11_4, hcz11_5, hcz11_6, hcz11_7, hcz11_8, hcz11_9, hcz11_10, hcz11_11, hcz11_12⟩ := cellsK13 BK353.out
       obtain ⟨hfz11_0, hfz11_1, hfz11_2, hfz11_3, hfz11_4, hfz11_5, hfz11_6, hfz11_7, hfz11_8, hfz11_9, hfz11_10, hfz11_11, hfz11_12⟩ := frozK13 BK353.out
       try go_wp2
       have n0_ := am (Kd.R_drew HO_5.out)
       have n1_ := am (blk_drew BK353.out)
       have n2_ := am (below_drew1 HB.out)
       clear HO_5
       clear BK353
       clear HB
       have HO_5 := n0_
       have BK353 := n1_
       have HB := n2_
       clear n0_ n1_ n2_
       have p354 : 0 ≤ (x6_1 : Int) := of_decide_eq_true (by first | (with_reducible assumption) | assumption)
       have q354 : x6_1 < (l1.length : Int) := of_decide_eq_true (by first | (with_reducible assumption) | assumption)
       obtain ⟨ad354, e354, hx354_0⟩ := Kd.at_int HR1.out x6_1 p354 q354
       have hw354_0 := hx354_0
       cases e354
       replace hx354_0 := (HB.out.cell (World.block_lt_of_cell? w _ hx354_0)).trans hx354_0
       replace p354 := eq_true p354
       replace q354 := eq_true q354
       refine start_ (n := 9) (S := fun w' => w'.cell? ⟨gb353, 0, none⟩ = some (.slice A0_0 l0_0.length c0_0) ∧ w'.cell? ⟨gb353, 1, none⟩ = some (.slice A0_1 l0_1.length c0_1) ∧ w'.cell? ⟨gb353, 2, none⟩ = some (.int .i64 a0_2) ∧ w'.cell? ⟨gb353, 3, none⟩ = some (.int .i64 a0_3) ∧ w'.cell? ⟨gb353, 4, none⟩ = some (.int .i64 a0_4) ∧ w'.cell? ⟨gb353, 5, none⟩ = some (.int .i64 a0_5) ∧ w'.cell? ⟨gb353, 6, none⟩ = some (.int .i64 a0_6) ∧ w'.cell? ⟨gb353, 7, none⟩ = some (.int .i64 a0_7) ∧ w'.cell? ⟨gb353, 8, none⟩ = some (.int .i64 a0_8) ∧ w'.cell? ⟨gb353, 9, none⟩ = some (.int .i64 a0_9) ∧ w'.cell? ⟨gb353, 10, none⟩ = some (.int .i64 a0_10) ∧ w'.cell? ⟨gb353, 11, none⟩ = some (.int .i64 a0_11) ∧ w'.cell? ⟨gb353, 12, none⟩ = some (.int .i64 a0_12) ∧ w'.cell? (ad354.add (x6_1).toNat) = some (.int .i64 (rd l1 x6_1))) (ds := []) #[false, false, false, false, false, false, false, false, false] (by kernel_rfl) rfl rfl ⟨(blk_cell BK353.out 0).trans rfl, (blk_cell BK353.out 1).trans rfl, (blk_cell BK353.out 2).trans rfl, (blk_cell BK353.out 3).trans rfl, (blk_cell BK353.out 4).trans rfl, (blk_cell BK353.out 5).trans rfl, (blk_cell BK353.out 6).trans rfl, (blk_cell BK353.out 7).trans rfl, (blk_cell BK353.out 8).trans rfl, (blk_cell BK353.out 9).trans rfl, (blk_cell BK353.out 10).trans rfl, (blk_cell BK353.out 11).trans rfl, (blk_cell BK353.out 12).trans rfl, ((HB.out.cell (World.block_lt_of_cell? w _ hw354_0)).trans hw354_0)⟩ (fun hHeld => ?_); refine with_tabW dl19_whole.tab7 dl19_whole.bits7 (fun HT_ HW_ => ?_)
       generalize wr.drew = w12 at HO_5 BK353 HB hx354_0 hHeld ⊢
       refine pure_ (i := 0) (N := some 19) (v := ?_) (a' := ?_) #[true, false, false, false, false, false, false, false, false] rfl rfl (any_of HT_.out (by kernel_rfl)) (fun _ _ _ h => h) (Or.inl ⟨by rfl, ?_⟩) ?_ ?_
       rotate_left
       ·intro w'
        go_simp
        with_reducible rfl
       rotate_left
       ·simp only [Act.put, sAa, sBb, sCc, i64_w, i32_w]
        rfl
       refine pure_ (i := 1) (N := some 20) (v := ?_) (a' := ?_) #[true, true, false, false, false, false, false, false, false] rfl rfl (any_of HT_.out (by kernel_rfl)) (fun _ _ _ h => h) (Or.inl ⟨by rfl, ?_⟩) ?_ ?_
       rotate_left
       ·intro w'
        go_simp
        with_reducible rfl
       rotate_left
       ·simp only [Act.put, sAa, sBb, sCc, i64_w, i32_w]
        rfl
       refine pure_ (i := 2) (N := some 21) (v := ?_) (a' := ?_) #[true, true, true, false, false, false, false, false, false] rfl rfl (any_of HT_.out (by kernel_rfl)) (fun _ _ _ h => h) (Or.inl ⟨by rfl, ?_⟩) ?_ ?_
       rotate_left
       ·intro w'
        go_simp
        with_reducible rfl
       rotate_left
       ·simp only [Act.put, sAa, sBb, sCc, i64_w, i32_w]
        rfl
       refine take_ (i := 3) (N := some 22) (v := ?_) (a' := ?_) #[true, true, true, true, false, false, false, false, false] rfl rfl (take_ofW HT_.out HW_.out (by kernel_rfl)) (fun _ _ _ h => h) (Or.inl ⟨by rfl, ?_⟩) hHeld ?_ ?_
       rotate_left
       ·rintro w' ⟨s0, s1, s2, s3, s4, s5, s6, s7, s8, s9, s10, s11, s12, s13⟩
        go_simp
        with_reducible rfl
       rotate_left
       ·simp only [Act.put, sAa, sBb, sCc, i64_w, i32_w]
        rfl
       refine pure_ (i := 4) (N := some 23) (v := ?_) (a' := ?_) #[true, true, true, true, true, false, false, false, false] rfl rfl (any_of HT_.out (by kernel_rfl)) (fun _ _ _ h => h) (Or.inl ⟨by rfl, ?_⟩) ?_ ?_
       rotate_left
       ·intro w'
        go_simp
        with_reducible rfl
       rotate_left
       ·simp only [Act.put, sAa, sBb, sCc, i64_w, i32_w]
        rfl
       refine take_ (i := 5) (N := some 24) (v := ?_) (a' := ?_) #[true, true, true, true, true, true, false, false, false] rfl rfl (take_ofW HT_.out HW_.out (by kernel_rfl)) (fun _ _ _ h => h) (Or.inl ⟨by rfl, ?_⟩) hHeld ?_ ?_
       rotate_left
       ·rintro w' ⟨s0, s1, s2, s3, s4, s5, s6, s7, s8, s9, s10, s11, s12, s13⟩
        go_simp
        with_reducible rfl
       rotate_left
       ·simp only [Act.put, sAa, sBb, sCc, i64_w, i32_w]
        rfl
       refine one_ (i := 6) (N := some 25) #[true, true, true, true, true, true, true, false, false] rfl rfl (one_of HT_.out (by kernel_rfl)) (by decide) (fun K hK => ?_)
       refine goes_ Tryz.func30 (by kernel_rfl) rfl #[.agg #[.slice A0_0 l0_0.length c0_0, .slice A0_1 l0_1.length c0_1, .int .i64 a0_2, .int .i64 a0_3, .int .i64 a0_4, .int .i64 a0_5, .int .i64 a0_6, .int .i64 a0_7, .int .i64 a0_8, .int .i64 a0_9, .int .i64 a0_10, .int .i64 a0_11, .int .i64 a0_12]] (by rfl) rfl rfl (by (try simp only [List.map_toArray, List.map_cons, List.map_nil]); first | done | rfl | (simp only [List.length_drop, List.length_take]; rfl)) ?_
       with_reducible refine (dr5_Gone.calls _ _ l0_0 _ _ l0_1 a0_2 a0_3 a0_4 a0_5 a0_6 a0_7 a0_8 a0_9 a0_10 a0_11 a0_12 t355 _ ?side1 ?side2 ?side3 ?side4 A8.out).mono ?_
       (case side1 => repeat (first | exact (Kd.C_below HR0_0.out HB.out) | (with_reducible refine Kd.C_alloc ?_ _) | (with_reducible refine Kd.C_drewN ?_ _) | (with_reducible refine Kd.C_drew ?_)))
       (case side2 => exact HC0_0.out)
       (case side3 => repeat (first | exact (Kd.C_below HR0_1.out HB.out) | (with_reducible refine Kd.C_alloc ?_ _) | (with_reducible refine Kd.C_drewN ?_ _) | (with_reducible refine Kd.C_drew ?_)))
       (case side4 => exact HC0_1.out)
       rintro e w13 ⟨rfl, hb⟩
       refine ⟨_, rfl, ?_⟩
       have n0_ := am (Kd.R_below (by (with_reducible repeat (first | apply Kd.R_alloc | apply Kd.R_drewN | apply Kd.R_drew)); exact HO_5.out) hb)
       have n1_ := am (blk_below (g := gb353) (o := .cells #[.slice A0_0 l0_0.length c0_0, .slice A0_1 l0_1.length c0_1, .int .i64 a0_2, .int .i64 a0_3, .int .i64 a0_4, .int .i64 a0_5, .int .i64 a0_6, .int .i64 a0_7, .int .i64 a0_8, .int .i64 a0_9, .int .i64 a0_10, .int .i64 a0_11, .int .i64 a0_12] 25 (0, 0)) (by (with_reducible repeat (first | refine blk_drewN ?_ _ | refine blk_drew ?_ | refine blk_alloc ?_ _)); exact BK353.out) hb)
       have n2_ := am (below_step (by repeat (first | (with_reducible first | exact HB.out | apply below_alloc | apply pw_below_drewN | apply below_drew1 | refine below_set ?_ GE353.out) | exact HB.out)) hb)
       clear HO_5
       clear BK353
       clear HB
       have HO_5 := n0_
       have BK353 := n1_
       have HB := n2_
       clear n0_ n1_ n2_
       (try clear hb)
       (try clear hb2)
       (try clear hk)
       (try clear hi)
       refine hK.out _ _ ⟨(blk_cell BK353.out 0).trans rfl, (blk_cell BK353.out 1).trans rfl, (blk_cell BK353.out 2).trans rfl, (blk_cell BK353.out 3).trans rfl, (blk_cell BK353.out 4).trans rfl, (blk_cell BK353.out 5).trans rfl, (blk_cell BK353.out 6).trans rfl, (blk_cell BK353.out 7).trans rfl, (blk_cell BK353.out 8).trans rfl, (blk_cell BK353.out 9).trans rfl, (blk_cell BK353.out 10).trans rfl, (blk_cell BK353.out 11).trans rfl, (blk_cell BK353.out 12).trans rfl, ((HB.out.cell (World.block_lt_of_cell? w _ hw354_0)).trans hw354_0)⟩ (fun hHeld => ?_)
       clear hK K
       refine norm_ (a' := ?_) ?_ ?_
       rotate_left
       ·show Act.put _ (some 25) _ = _
        simp only [Act.put, sAa, sBb, sCc, i64_w, i32_w]
        rfl
       refine pure_ (i := 7) (N := some 26) (v := ?_) (a' := ?_) #[true, true, true, true, true, true, true, true, false] rfl rfl (any_of HT_.out (by kernel_rfl)) (fun _ _ _ h => h) (Or.inl ⟨by rfl, ?_⟩) ?_ ?_
       rotate_left
       ·intro w'
        go_simp
        with_reducible rfl
       rotate_left
       ·simp only [Act.put, sAa, sBb, sCc, i64_w, i32_w]
        rfl
       refine pure_ (i := 8) (N := some 7) (v := ?_) (a' := ?_) #[true, true, true, true, true, true, true, true, true] rfl rfl (any_of HT_.out (by kernel_rfl)) (fun _ _ _ h => h) (Or.inl ⟨by rfl, ?_⟩) ?_ ?_
       rotate_left
       ·intro w'
        go_simp
        with_reducible rfl
       rotate_left
       ·simp only [Act.put, sAa, sBb, sCc, i64_w, i32_w]
        rfl
       refine done_ (done_of HT_.out (by kernel_rfl)) ?_
       try go_wp2_with (first | ((with_reducible refine gate_builtin (b := .append) (xs := #[.tmp 27, .tmp 29]) rfl ?_); at_builtin; refine Kd.R_append (Kd.int .i64) (w0 := w) w.heap.size rfl (.tmp 27) (.tmp 29) 33 3 (.int .i64 0) 8 rfl Tryz.underlying33 info3 rfl (by decide) (by omega) u5 x5_1 ji9 [.int .i64 ji9] (fun _ => True) (fun _ => False) rfl rfl ?aP (fun _ hk => hk.elim) ?aF ?aO ?aB ?aS ?aL ?_; (case aP => exact rfl); (case aB => exact (by repeat (first | (with_reducible first | exact HB.out | apply below_alloc | apply pw_below_drewN | apply below_drew1 | refine below_set ?_ GE353.out) | exact HB.out))); (case aF => exact (fun _ _ => trivial)); (case aO => exact (by (with_reducible repeat (first | apply Kd.R_alloc | apply Kd.R_drewN | apply Kd.R_drew)); exact HO_5.out)); (case aS => exact (below_size (by repeat (first | (with_reducible first | exact HB.out | apply below_alloc | apply pw_below_drewN | apply below_drew1 | refine below_set ?_ GE353.out) | exact HB.out)))); (case aL => have := LMc10.out; omega); intro v357 w14 ho hb hg hat; rw [← Ny356.out] at ho; have n0_ := am (blk_grown (g := gb353) (o := .cells #[.slice A0_0 l0_0.length c0_0, .slice A0_1 l0_1.length c0_1, .int .i64 a0_2, .int .i64 a0_3, .int .i64 a0_4, .int .i64 a0_5, .int .i64 a0_6, .int .i64 a0_7, .int .i64 a0_8, .int .i64 a0_9, .int .i64 a0_10, .int .i64 a0_11, .int .i64 a0_12] 25 (0, 0)) (by (with_reducible repeat (first | refine blk_drewN ?_ _ | refine blk_drew ?_ | refine blk_alloc ?_ _)); exact BK353.out) hg (Kd.R_ne HO_5.out BK353.out (by decide))); have n1_ := am (hb); have n2_ := am (ho); clear BK353; clear HB; clear HO_5; have BK353 := n0_; have HB := n1_; have HO358 := n2_; clear n0_ n1_ n2_; clear ho hb hg hat))
       go_roundg k1
       case measure => have := HK1.out; omega
       case rel => exact ⟨(y356), (wrap64 (x6_1 + 1)), (by first | rfl | (simp; done) | (simp [*]; done) | (have := TNA.out; unfold wrap64; congr 1; omega) | (unfold wrap64; omega)), H', ⟨by have := HK1.out; omega⟩, ⟨by (with_reducible repeat (first | apply Kd.R_alloc | apply Kd.R_drewN | apply Kd.R_drew)); exact HO358.out⟩, ⟨by (with_reducible repeat (first | refine blk_drewN ?_ _ | refine blk_drew ?_ | refine blk_alloc ?_ _)); exact BK353.out⟩, ⟨by repeat (first | (with_reducible first | exact HB.out | apply below_alloc | apply pw_below_drewN | apply below_drew1 | refine below_set ?_ GE353.out) | exact HB.out)⟩⟩
      ·rw [if_neg c10] at H
       exact absurd H (by simp)
     ·rw [if_neg c6] at H
      exact absurd H (by simp)
    ·rw [if_neg c5] at H
     have c5b0 : decide (x6_1 < (l1.length : Int)) = false := decide_eq_false c5
     clear c5
     by_cases c15 : x5_1.length < 17592186044416
     ·rw [if_pos c15] at H
      have LMc15 := am c15
      clear c15
      obtain ⟨y359, hy359⟩ : ∃ y_ : List Int, y_ = (x5_1 ++ [1]) := ⟨_, rfl⟩
      replace H : (dl19_whole.l0 k1 l1 y359 (wrap64 (x6_1 + 1)) l0_0 l0_1 a0_2 a0_3 a0_4 a0_5 a0_6 a0_7 a0_8 a0_9 a0_10 a0_11 a0_12) = some r := by first | (rw [hy359]; with_reducible exact H) | (have H2_ := (Option.bind_some _ _).symm.trans H; rw [hy359]; with_reducible exact H2_) | (have H2_ := (Option.bind_some _ _).symm.trans H; with_reducible exact H2_) | with_reducible exact H | (rw [hy359]; exact H) | exact H
      have Ny359 := am hy359
      clear hy359
      have H' := am H
      clear H
      obtain ⟨hcz16_0, hcz16_1, hcz16_2, hcz16_3, hcz16_4, hcz16_5, hcz16_6, hcz16_7, hcz16_8, hcz16_9, hcz16_10, hcz16_11, hcz16_12⟩ := cellsK13 BK353.out
      obtain ⟨hfz16_0, hfz16_1, hfz16_2, hfz16_3, hfz16_4, hfz16_5, hfz16_6, hfz16_7, hfz16_8, hfz16_9, hfz16_10, hfz16_11, hfz16_12⟩ := frozK13 BK353.out
      go_wp2_with (first | ((with_reducible refine gate_builtin (b := .append) (xs := #[.tmp 27, .tmp 29]) rfl ?_); at_builtin; refine Kd.R_append (Kd.int .i64) (w0 := w) w.heap.size rfl (.tmp 27) (.tmp 29) 33 3 (.int .i64 0) 8 rfl Tryz.underlying33 info3 rfl (by decide) (by omega) u5 x5_1 1 [.int .i64 1] (fun _ => True) (fun _ => False) rfl rfl ?aP (fun _ hk => hk.elim) ?aF ?aO ?aB ?aS ?aL ?_; (case aP => exact rfl); (case aB => exact (by repeat (first | (with_reducible first | exact HB.out | apply below_alloc | apply pw_below_drewN | apply below_drew1 | refine below_set ?_ GE353.out) | exact HB.out))); (case aF => exact (fun _ _ => trivial)); (case aO => exact (by (with_reducible repeat (first | apply Kd.R_alloc | apply Kd.R_drewN | apply Kd.R_drew)); exact HO_5.out)); (case aS => exact (below_size (by repeat (first | (with_reducible first | exact HB.out | apply below_alloc | apply pw_below_drewN | apply below_drew1 | refine below_set ?_ GE353.out) | exact HB.out)))); (case aL => have := LMc15.out; omega); intro v360 w17 ho hb hg hat; rw [← Ny359.out] at ho; have n0_ := am (blk_grown (g := gb353) (o := .cells #[.slice A0_0 l0_0.length c0_0, .slice A0_1 l0_1.length c0_1, .int .i64 a0_2, .int .i64 a0_3, .int .i64 a0_4, .int .i64 a0_5, .int .i64 a0_6, .int .i64 a0_7, .int .i64 a0_8, .int .i64 a0_9, .int .i64 a0_10, .int .i64 a0_11, .int .i64 a0_12] 25 (0, 0)) (by (with_reducible repeat (first | refine blk_drewN ?_ _ | refine blk_drew ?_ | refine blk_alloc ?_ _)); exact BK353.out) hg (Kd.R_ne HO_5.out BK353.out (by decide))); have n1_ := am (hb); have n2_ := am (ho); clear BK353; clear HB; clear HO_5; have BK353 := n0_; have HB := n1_; have HO361 := n2_; clear n0_ n1_ n2_; clear ho hb hg hat))
      go_roundg k1
      case measure => have := HK1.out; omega
      case rel => exact ⟨(y359), (wrap64 (x6_1 + 1)), (by first | rfl | (simp; done) | (simp [*]; done) | (have := TNA.out; unfold wrap64; congr 1; omega) | (unfold wrap64; omega)), H', ⟨by have := HK1.out; omega⟩, ⟨by (with_reducible repeat (first | apply Kd.R_alloc | apply Kd.R_drewN | apply Kd.R_drew)); exact HO361.out⟩, ⟨by (with_reducible repeat (first | refine blk_drewN ?_ _ | refine blk_drew ?_ | refine blk_alloc ?_ _)); exact BK353.out⟩, ⟨by repeat (first | (with_reducible first | exact HB.out | apply below_alloc | apply pw_below_drewN | apply below_drew1 | refine below_set ?_ GE353.out) | exact HB.out)⟩⟩
     ·rw [if_neg c15] at H
      exact absurd H (by simp)
   ·rw [if_neg c4] at H
    have c4b0 : decide (x6_1 < (l0_0.length : Int)) = false := decide_eq_false c4
    clear c4
    obtain rfl := Option.some.inj H
    obtain ⟨hcz18_0, hcz18_1, hcz18_2, hcz18_3, hcz18_4, hcz18_5, hcz18_6, hcz18_7, hcz18_8, hcz18_9, hcz18_10, hcz18_11, hcz18_12⟩ := cellsK13 BK353.out
    obtain ⟨hfz18_0, hfz18_1, hfz18_2, hfz18_3, hfz18_4, hfz18_5, hfz18_6, hfz18_7, hfz18_8, hfz18_9, hfz18_10, hfz18_11, hfz18_12⟩ := frozK13 BK353.out
    go_wp2
    go_ret
    exact ⟨_, by first | rfl | (simp [errW_none, errW_some] <;> rfl) | (simp [*, errW_none, errW_some] <;> rfl), by (with_reducible repeat (first | apply Kd.R_alloc | apply Kd.R_drewN | apply Kd.R_drew)); exact HO_5.out, by repeat (first | (with_reducible first | exact HB.out | apply below_alloc | apply pw_below_drewN | apply below_drew1 | refine below_set ?_ GE353.out) | exact HB.out)⟩
end Go.Proofs.YtbefbhghmommhaaGreatDoor.MWo
