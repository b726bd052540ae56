/- Texts of this claim, laid together by a program (wip/g/merge3.py): MWox45. -/
import Derived.Test.YtbefbhghmommhaaGreatDoorZWa3
import Derived.Test.YtbefbhghmommhaaGreatDoorZWa6
namespace Go.Proofs.YtbefbhghmommhaaGreatDoor.MWo
open Go.RowKit Go.Proofs.YtbefbhghmommhaaGreatDoorW.PrintWords Go.Proofs.YtbefbhghmommhaaGreatDoorW.PrintLast Go.Proofs.YtbefbhghmommhaaGreatDoorW.PrintMore
attribute [local go_sem] mp_u32s mp_u32m mp_u8s mp_u8m max2_int min2_int max_two min_two max_three min_three max_four min_four
set_option linter.unusedVariables false
set_option linter.unusedSimpArgs false
def watch_starts.l0 : Nat → List Int → List (S55) → Int → Int → Option (List Int)
 | 0, _, _, _, _ => none
 | k + 1, x3, x7, x8, x9 => if x9 < x8 then (if 0 ≤ x9 then (if x9 < (x7.length : Int) then (if x3.length < 17592186044416 then (watch_starts.l0 k (x3 ++ [(rd_T55 x7 x9).f3]) x7 x8 (wrap64 (x9 + 1))) else (none)) else (none)) else (none)) else (some x3)
def watch_starts.f (k : Nat) (l0_0 : List (S55)) (a0_1 : Bool) (a0_2 : Int) (l0_3 : List Int) : Option (List Int) := (watch_synced.f k l0_0 a0_1 a0_2 l0_3).bind fun t170 => (watch_starts.l0 k ([] : List Int) t170 (t170.length : Int) 0)
theorem watch_starts.mono_l : ∀ k, (∀ y0 y1 y2 y3, LeO (watch_starts.l0 k y0 y1 y2 y3) (watch_starts.l0 (k + 1) y0 y1 y2 y3))
 | 0 => fun _ _ _ _ r h => by simp [watch_starts.l0] at h
 | k + 1 => by
  have ih0 := watch_starts.mono_l k
  ·intro y0 y1 y2 y3
   unfold watch_starts.l0
   repeat' first
   | (with_reducible exact ih0 _ _ _ _)
   | (with_reducible exact watch_synced.mono _ _ _ _ _)
   | (with_reducible exact LeO.refl _)
   | (with_reducible exact LeO.none _)
   | (with_reducible refine LeO.ite ?_ ?_)
   | (with_reducible refine LeO.bind ?_ (fun _ => ?_))
   | exact ih0 _ _ _ _
   | exact watch_synced.mono _ _ _ _ _
   | exact LeO.none _
   | refine LeO.ite ?_ ?_
   | refine LeO.bind ?_ (fun _ => ?_)
theorem watch_starts.mono : ∀ a0 a1 a2 a3 k, LeO (watch_starts.f k a0 a1 a2 a3) (watch_starts.f (k + 1) a0 a1 a2 a3) := by
 intro a0 a1 a2 a3 k
 have ih0 := watch_starts.mono_l k
 unfold watch_starts.f
 repeat' first
   | (with_reducible exact ih0 _ _ _ _)
   | (with_reducible exact watch_synced.mono _ _ _ _ _)
   | (with_reducible exact LeO.refl _)
   | (with_reducible exact LeO.none _)
   | (with_reducible refine LeO.ite ?_ ?_)
   | (with_reducible refine LeO.bind ?_ (fun _ => ?_))
   | exact ih0 _ _ _ _
   | exact watch_synced.mono _ _ _ _ _
   | exact LeO.none _
   | refine LeO.ite ?_ ?_
   | refine LeO.bind ?_ (fun _ => ?_)
set_option maxHeartbeats 8000000 in
set_option maxRecDepth 100000 in
theorem watch_starts.calls (k : Nat) (A0_0 : Option Addr) (c0_0 : Nat) (l0_0 : List (S55)) (a0_1 : Bool) (a0_2 : Int) (A0_3 : Option Addr) (c0_3 : Nat) (l0_3 : List Int) (r : List Int) (w : World) (hr0_0 : Kd.C k55 w A0_0 l0_0.length l0_0) (hc0_0 : l0_0.length ≤ c0_0) (hr0_3 : Kd.C (Kd.int .i64) w A0_3 l0_3.length l0_3) (hc0_3 : l0_3.length ≤ c0_3) (h : watch_starts.f k l0_0 a0_1 a0_2 l0_3 = some r) :
  Calls Tryz.prog 31 #[.agg #[.slice A0_0 l0_0.length c0_0, .bool a0_1, .int .i64 a0_2, .slice A0_3 l0_3.length c0_3]] w fun e w' => ∃ v0_ : Value, e = .returned (v0_) ∧ Kd.R (Kd.int .i64) 2 w' w.heap.size (fun _ => True) v0_ r ∧ Below w.heap.size w w' := by
 have hu37 := Tryz.underlying37
 have hu55 := Tryz.underlying55
 have HR0_0 := am hr0_0
 have HC0_0 := am hc0_0
 clear hr0_0 hc0_0
 have HR0_3 := am hr0_3
 have HC0_3 := am hc0_3
 clear hr0_3 hc0_3
 have HB := am (Below.refl w.heap.size w)
 have H : ((watch_synced.f k l0_0 a0_1 a0_2 l0_3).bind fun t170 => (watch_starts.l0 k ([] : List Int) t170 (t170.length : Int) 0)) = some r := h
 clear h
 replace H := Option.bind_eq_some_iff.mp H
 obtain ⟨t170, A20, H⟩ := H
 replace H : (watch_starts.l0 k ([] : List Int) t170 (t170.length : Int) 0) = some r := H
 have A2 := am A20
 clear A20
 have H' := am H
 clear H
 go_enter Tryz.func31, Tryz.ntmps31
 go_wp2_with (first | ((with_reducible refine gate_dst (N := 1) rfl ?_); refine box_event ?hg (N := 1) ?hd (cs := #[.slice A0_0 l0_0.length c0_0, .bool a0_1, .int .i64 a0_2, .slice A0_3 l0_3.length c0_3]) (t := 37) ?hr ?_; (case hd => rfl); (case hg => rfl); (case hr => first | (go_simp; done) | (go_simp; rfl)); intro gb169 hg w3 hbox hb; have n0_ := am (below_step (by repeat (first | (with_reducible first | exact HB.out | apply below_alloc | apply pw_below_drewN | apply below_drew1) | exact HB.out)) hb); have n1_ := am (hbox); have n2_ := am ((by rw [hg]; exact (below_size (by repeat (first | (with_reducible first | exact HB.out | apply below_alloc | apply pw_below_drewN | apply below_drew1) | exact HB.out))) : w.heap.size ≤ gb169)); have n3_ := am ((by rw [hg]; exact (below_size (by repeat (first | (with_reducible first | exact HB.out | apply below_alloc | apply pw_below_drewN | apply below_drew1) | exact HB.out))) : w.heap.size ≤ gb169)); clear HB; have HB := n0_; have BK169 := n1_; have GW169 := n2_; have GE169 := n3_; clear n0_ n1_ n2_ n3_; clear hb hbox hg; obtain ⟨hcz4_0, hcz4_1, hcz4_2, hcz4_3⟩ := cellsK4 BK169.out; obtain ⟨hfz4_0, hfz4_1, hfz4_2, hfz4_3⟩ := frozK4 BK169.out) | ((with_reducible refine gate_callee (f := 23) rfl ?_); refine goesL_ (some 7) rfl rfl Tryz.func23 (by kernel_rfl) rfl #[.agg #[.slice A0_0 l0_0.length c0_0, .bool a0_1, .int .i64 a0_2, .slice A0_3 l0_3.length c0_3]] rfl (by (try simp only [List.map_toArray, List.map_cons, List.map_nil]); first | done | rfl | (simp only [List.length_drop, List.length_take]; rfl)) ?_; (with_reducible refine (watch_synced.calls k (fun k_ => k_ < w.heap.size) _ _ l0_0 a0_1 a0_2 _ _ l0_3 t170 _ ?side1 ?side2 ?side3 A2.out).mono ?_); (case side1 => exact Kd.V_mk HC0_0.out (Kd.F_below (Kd.C_F k55_heap HR0_0.out) (by repeat (first | (with_reducible first | exact HB.out | apply below_alloc | apply pw_below_drewN | apply below_drew1 | refine below_set ?_ GE169.out) | exact HB.out)))); (case side2 => repeat (first | exact (Kd.C_below HR0_3.out HB.out) | (with_reducible refine Kd.C_alloc ?_ _) | (with_reducible refine Kd.C_drewN ?_ _) | (with_reducible refine Kd.C_drew ?_))); (case side3 => exact HC0_3.out); rintro e w5 ⟨v171, rfl, ho0, hb⟩; refine ⟨_, rfl, ?_⟩; have n0_ := am (Kd.N_lower (Kd.N_mono (ok' := fun k_ => k_ ≠ gb169) ho0 (fun k_ hk_ => Or.elim hk_ (fun hs_ => fun e_ => Nat.not_le.2 hs_ (by rw [e_]; exact GW169.out)) (fun hn_ => (Kd.freshB (g := gb169) (o := .cells #[.slice A0_0 l0_0.length c0_0, .bool a0_1, .int .i64 a0_2, .slice A0_3 l0_3.length c0_3] 37 (0, 0)) (by (with_reducible repeat (first | refine blk_drewN ?_ _ | refine blk_drew ?_ | refine blk_alloc ?_ _)); exact BK169.out) k_ hn_)))) (below_size (by repeat (first | (with_reducible first | exact HB.out | apply below_alloc | apply pw_below_drewN | apply below_drew1 | refine below_set ?_ GE169.out) | exact HB.out)))); have n1_ := am (blk_below (g := gb169) (o := .cells #[.slice A0_0 l0_0.length c0_0, .bool a0_1, .int .i64 a0_2, .slice A0_3 l0_3.length c0_3] 37 (0, 0)) (by (with_reducible repeat (first | refine blk_drewN ?_ _ | refine blk_drew ?_ | refine blk_alloc ?_ _)); exact BK169.out) hb); have n2_ := am (below_step (by repeat (first | (with_reducible first | exact HB.out | apply below_alloc | apply pw_below_drewN | apply below_drew1 | refine below_set ?_ GE169.out) | exact HB.out)) hb); clear BK169; clear HB; have HO172 := n0_; have BK169 := n1_; have HB := n2_; clear n0_ n1_ n2_; (try clear hb); (try clear hb2); (try clear hk); (try clear hi); (try clear ho0); obtain ⟨Ao6, co6, eo6⟩ := Kd.N_slice HO172.out; subst eo6))
 go_loopg [3, 9] k (fun kq v3 v9 w' => ∃ (x3_1 : List Int) (x9_1 : Int), v9 = .int .i64 x9_1 ∧ Aside0 (watch_starts.l0 kq x3_1 t170 (t170.length : Int) x9_1 = some r) ∧ Aside0 (kq ≤ k) ∧ Aside0 (Kd.R (Kd.int .i64) 2 w' w.heap.size (fun _ => True) v3 x3_1) ∧ Aside0 (Kd.N k55 55 w' w.heap.size (fun k_ => some k_ ≠ (v3 : Value).ownBlock ∧ k_ ≠ gb169) (.slice Ao6 t170.length co6) t170) ∧ Aside0 (w'.heap[gb169]? = some (.cells #[(.slice A0_0 l0_0.length c0_0), .bool a0_1, .int .i64 a0_2, (.slice A0_3 l0_3.length c0_3)] 37 (0, 0))) ∧ Aside0 (Below w.heap.size w w'))
 case atStart => exact ⟨(([] : List Int)), (0), (by first | rfl | (simp; done) | (simp [*]; done) | (have := TNA.out; unfold wrap64; congr 1; omega) | (unfold wrap64; omega)), H', ⟨Nat.le_refl _⟩, ⟨by first | exact Kd.R_nil _ _ _ _ _ | exact Kd.N_nil _ _ _ _ _ | exact Kd.V_nil _ _ _ _ _ | exact Kd.Q_nil _ _ _ _ _ | exact Kd.S_nil _ _ _ _ _⟩, ⟨by (with_reducible repeat (first | apply Kd.N_alloc | apply Kd.N_drewN | apply Kd.N_drew)); exact Kd.N_mono HO172.out (fun _ hk => ⟨(by simp [Value.ownBlock]), hk⟩)⟩, ⟨by (with_reducible repeat (first | refine blk_drewN ?_ _ | refine blk_drew ?_ | refine blk_alloc ?_ _)); exact BK169.out⟩, ⟨by repeat (first | (with_reducible first | exact HB.out | apply below_alloc | apply pw_below_drewN | apply below_drew1 | refine below_set ?_ GE169.out) | exact HB.out)⟩⟩
 case round =>
  clear H'
  try clear c2
  try clear p2
  try clear c3
  try clear hcz4_0
  try clear hcz4_1
  try clear hcz4_2
  try clear hcz4_3
  try clear hfz4_0
  try clear hfz4_1
  try clear hfz4_2
  try clear hfz4_3
  obtain ⟨x3_1, x9_1, rfl, HA, HK1, HO_3, HO_7, BK169, HB⟩ := hrel
  cases gk with
  | zero => exact absurd HA.out (by simp [watch_starts.l0])
  | succ k1 =>
   have H := HA.out
   clear HA
   simp only [watch_starts.l0] at H
   by_cases c7 : x9_1 < (t170.length : Int)
   ·rw [if_pos c7] at H
    have c7b0 : decide (x9_1 < (t170.length : Int)) = true := decide_eq_true c7
    clear c7
    by_cases c8 : 0 ≤ x9_1
    ·rw [if_pos c8] at H
     have c8b0 : decide (0 ≤ x9_1) = true := decide_eq_true c8
     clear c8
     by_cases c9 : x9_1 < (t170.length : Int)
     ·rw [if_pos c9] at H
      have c9b0 : decide (x9_1 < (t170.length : Int)) = true := decide_eq_true c9
      clear c9
      by_cases c10 : x3_1.length < 17592186044416
      ·rw [if_pos c10] at H
       have LMc10 := am c10
       clear c10
       obtain ⟨y175, hy175⟩ : ∃ y_ : List Int, y_ = (x3_1 ++ [(rd_T55 t170 x9_1).f3]) := ⟨_, rfl⟩
       replace H : (watch_starts.l0 k1 y175 t170 (t170.length : Int) (wrap64 (x9_1 + 1))) = some r := by first | (rw [hy175]; with_reducible exact H) | (have H2_ := (Option.bind_some _ _).symm.trans H; rw [hy175]; with_reducible exact H2_) | (have H2_ := (Option.bind_some _ _).symm.trans H; with_reducible exact H2_) | with_reducible exact H | (rw [hy175]; exact H) | exact H
       have Ny175 := am hy175
       clear hy175
       have H' := am H
       clear H
       have p173 : 0 ≤ (x9_1 : Int) := of_decide_eq_true (by first | (with_reducible assumption) | assumption)
       have q173 : x9_1 < (t170.length : Int) := of_decide_eq_true (by first | (with_reducible assumption) | assumption)
       obtain ⟨ad173, A173_5, c173_5, e173, hx173_0, hx173_1, hx173_2, hx173_3, hx173_4, hx173_5, hx173_6, hx173_7, hl173_5, hi173_5⟩ := at_T55 (Kd.N_reads' HO_7.out).2.2 x9_1 p173 q173
       cases e173
       obtain ⟨ce173, hce173, hMe173, hcc173⟩ := Kd.N_get HO_7.out z55 x9_1 p173 (by first | exact q173 | exact of_decide_eq_true (by first | (with_reducible assumption) | assumption) | (have e_ := (Kd.N_reads' HO_7.out).1; omega))
       obtain ⟨ua173_5, uc173_5, rfl, ul173_5, ge173_5⟩ := k55_openF hMe173
       have hv173_5 := hcc173 5 _ rfl
       rw [add_field _ _ 5 (by omega)] at hv173_5
       replace hv173_5 := Option.some.inj (hv173_5.symm.trans hx173_5)
       injection hv173_5 with hva_ hvn_ hvc_
       rw [hva_] at ge173_5
       rw [hvc_] at ul173_5
       have HL173_5 := am (show Kd.V (Kd.int .i64) 3 _ w.heap.size _ _ ((rd_T55 t170 x9_1).f5) from Kd.V_mk ul173_5 ge173_5)
       clear hva_ hvn_ hvc_ ge173_5 ul173_5
       clear hcc173 hce173
       have HR173_5 := am hi173_5
       have HC173_5 := am hl173_5
       clear hi173_5 hl173_5
       replace p173 := eq_true p173
       replace q173 := eq_true q173
       go_wp2_with (first | ((with_reducible refine gate_dst (N := 5) rfl ?_); refine box_event ?hg (N := 5) ?hd (cs := #[.int .i64 0, .int .i64 0, .int .i64 0, .int .i64 0, .int .i64 0, .slice none 0 0, .int .i64 0, .int .i64 0]) (t := 55) ?hr ?_; (case hd => rfl); (case hg => rfl); (case hr => first | (go_simp; done) | (go_simp; rfl)); intro gb174 hg w11 hbox hb; have n0_ := am (Kd.R_below (by (with_reducible repeat (first | apply Kd.R_alloc | apply Kd.R_drewN | apply Kd.R_drew)); exact HO_3.out) hb); have n1_ := am (Kd.N_below (Kd.N_elderB (by (with_reducible repeat (first | apply Kd.N_alloc | apply Kd.N_drewN | apply Kd.N_drew)); exact HO_7.out) gb174 (Nat.le_of_eq hg.symm)) hb); have n2_ := am (Kd.V_below (Kd.V_elderB (by (with_reducible repeat (first | apply Kd.V_alloc | apply Kd.V_drewN | apply Kd.V_drew)); exact HL173_5.out) gb174 (Nat.le_of_eq hg.symm)) hb); have n3_ := am (blk_below (g := gb169) (o := .cells #[.slice A0_0 l0_0.length c0_0, .bool a0_1, .int .i64 a0_2, .slice A0_3 l0_3.length c0_3] 37 (0, 0)) (by (with_reducible repeat (first | refine blk_drewN ?_ _ | refine blk_drew ?_ | refine blk_alloc ?_ _)); exact BK169.out) hb); have n4_ := am (Kd.C_below (by repeat (first | (with_reducible exact HR173_5.out) | (with_reducible refine Kd.C_alloc ?_ _) | (with_reducible refine Kd.C_drewN ?_ _) | (with_reducible refine Kd.C_drew ?_) | exact HR173_5.out)) hb); have n5_ := am (below_step (by repeat (first | (with_reducible first | exact HB.out | apply below_alloc | apply pw_below_drewN | apply below_drew1 | refine below_set ?_ GE169.out) | exact HB.out)) hb); have n6_ := am (hbox); have n7_ := am ((by rw [hg]; exact (below_size (by repeat (first | (with_reducible first | exact HB.out | apply below_alloc | apply pw_below_drewN | apply below_drew1 | refine below_set ?_ GE169.out) | exact HB.out))) : w.heap.size ≤ gb174)); have n8_ := am ((by rw [hg]; exact (below_size (by repeat (first | (with_reducible first | exact HB.out | apply below_alloc | apply pw_below_drewN | apply below_drew1 | refine below_set ?_ GE169.out) | exact HB.out))) : w.heap.size ≤ gb174)); have n9_ := am ((by rw [hg]; exact Nat.ne_of_lt (blk_lt (g := gb169) (o := .cells #[.slice A0_0 l0_0.length c0_0, .bool a0_1, .int .i64 a0_2, .slice A0_3 l0_3.length c0_3] 37 (0, 0)) (by (with_reducible repeat (first | refine blk_drewN ?_ _ | refine blk_drew ?_ | refine blk_alloc ?_ _)); exact BK169.out)) : gb169 ≠ gb174)); have n10_ := am ((by rw [hg]; exact Nat.ne_of_gt (blk_lt (g := gb169) (o := .cells #[.slice A0_0 l0_0.length c0_0, .bool a0_1, .int .i64 a0_2, .slice A0_3 l0_3.length c0_3] 37 (0, 0)) (by (with_reducible repeat (first | refine blk_drewN ?_ _ | refine blk_drew ?_ | refine blk_alloc ?_ _)); exact BK169.out)) : gb174 ≠ gb169)); clear HO_3; clear HO_7; clear HL173_5; clear BK169; clear HR173_5; clear HB; have HO_3 := n0_; have HO_7 := n1_; have HL173_5 := n2_; have BK169 := n3_; have HR173_5 := n4_; have HB := n5_; have BK174 := n6_; have GW174 := n7_; have GE174 := n8_; have NB169_174 := n9_; have NB174_169 := n10_; clear n0_ n1_ n2_ n3_ n4_ n5_ n6_ n7_ n8_ n9_ n10_; clear hb hbox hg; have hnb12 := NB174_169.out; have hnc12 := NB169_174.out; obtain ⟨hcz13_0, hcz13_1, hcz13_2, hcz13_3, hcz13_4, hcz13_5, hcz13_6, hcz13_7⟩ := cellsK8 BK174.out; obtain ⟨hfz13_0, hfz13_1, hfz13_2, hfz13_3, hfz13_4, hfz13_5, hfz13_6, hfz13_7⟩ := frozK8 BK174.out) | ((with_reducible refine gate_builtin (b := .append) (xs := #[.tmp 13, .tmp 16]) rfl ?_); at_builtin; refine Kd.R_append (Kd.int .i64) (w0 := w) w.heap.size rfl (.tmp 13) (.tmp 16) 61 2 (.int .i64 0) 8 rfl Tryz.underlying61 info2 rfl (by decide) (by omega) u3 x3_1 ((rd_T55 t170 x9_1).f3) [.int .i64 ((rd_T55 t170 x9_1).f3)] (fun _ => True) (fun _ => False) rfl (by first | (go_simp; done) | (go_simp; rfl)) ?aP (fun _ hk => hk.elim) ?aF ?aO ?aB ?aS ?aL ?_; (case aP => exact rfl); (case aB => exact (by repeat (first | (with_reducible first | exact HB.out | apply below_alloc | apply pw_below_drewN | apply below_drew1 | refine below_set ?_ GE169.out | refine below_set ?_ GE174.out) | exact HB.out))); (case aF => exact (fun _ _ => trivial)); (case aO => exact (by (with_reducible repeat (first | apply Kd.R_alloc | apply Kd.R_drewN | apply Kd.R_drew)); exact Kd.R_mono (Kd.R_far (p := ⟨gb174, 7, none⟩) (Kd.R_far (p := ⟨gb174, 6, none⟩) (Kd.R_far (p := ⟨gb174, 5, none⟩) (Kd.R_far (p := ⟨gb174, 4, none⟩) (Kd.R_far (p := ⟨gb174, 3, none⟩) (Kd.R_far (p := ⟨gb174, 2, none⟩) (Kd.R_far (p := ⟨gb174, 1, none⟩) (Kd.R_far (p := ⟨gb174, 0, none⟩) (Kd.R_types HO_3.out BK174.out (by decide)) (fun _ hk => hk.2) (.int .i64 ((rd_T55 t170 x9_1).f0))) (fun _ hk => hk.2) (.int .i64 ((rd_T55 t170 x9_1).f1))) (fun _ hk => hk.2) (.int .i64 ((rd_T55 t170 x9_1).f2))) (fun _ hk => hk.2) (.int .i64 ((rd_T55 t170 x9_1).f3))) (fun _ hk => hk.2) (.int .i64 ((rd_T55 t170 x9_1).f4))) (fun _ hk => hk.2) (.slice A173_5 ((rd_T55 t170 x9_1).f5).length c173_5)) (fun _ hk => hk.2) (.int .i64 ((rd_T55 t170 x9_1).f6))) (fun _ hk => hk.2) (.int .i64 ((rd_T55 t170 x9_1).f7))) (fun _ hk => trivial))); (case aS => exact (below_size (by repeat (first | (with_reducible first | exact HB.out | apply below_alloc | apply pw_below_drewN | apply below_drew1 | refine below_set ?_ GE169.out | refine below_set ?_ GE174.out) | exact HB.out)))); (case aL => have := LMc10.out; omega); intro v176 w14 ho hb hg hat; rw [← Ny175.out] at ho; have n0_ := am (Kd.N_afterv (ok := (fun k_ => k_ ≠ gb169 ∧ k_ ≠ gb174)) (by (with_reducible repeat (first | apply Kd.N_alloc | apply Kd.N_drewN | apply Kd.N_drew)); exact Kd.N_mono (Kd.N_far (p := ⟨gb174, 7, none⟩) (Kd.N_far (p := ⟨gb174, 6, none⟩) (Kd.N_far (p := ⟨gb174, 5, none⟩) (Kd.N_far (p := ⟨gb174, 4, none⟩) (Kd.N_far (p := ⟨gb174, 3, none⟩) (Kd.N_far (p := ⟨gb174, 2, none⟩) (Kd.N_far (p := ⟨gb174, 1, none⟩) (Kd.N_far (p := ⟨gb174, 0, none⟩) (Kd.N_mono HO_7.out (fun k_ hk => (⟨hk, hk.2⟩ : _ ∧ k_ ≠ gb174))) (fun _ hk => hk.2) (.int .i64 ((rd_T55 t170 x9_1).f0))) (fun _ hk => hk.2) (.int .i64 ((rd_T55 t170 x9_1).f1))) (fun _ hk => hk.2) (.int .i64 ((rd_T55 t170 x9_1).f2))) (fun _ hk => hk.2) (.int .i64 ((rd_T55 t170 x9_1).f3))) (fun _ hk => hk.2) (.int .i64 ((rd_T55 t170 x9_1).f4))) (fun _ hk => hk.2) (.slice A173_5 ((rd_T55 t170 x9_1).f5).length c173_5)) (fun _ hk => hk.2) (.int .i64 ((rd_T55 t170 x9_1).f6))) (fun _ hk => hk.2) (.int .i64 ((rd_T55 t170 x9_1).f7))) (fun _ hk => ⟨⟨hk.1.1.2, hk.1.2⟩, hk.1.1.1⟩)) hg hat); have n1_ := am (blk_grown (g := gb169) (o := .cells #[.slice A0_0 l0_0.length c0_0, .bool a0_1, .int .i64 a0_2, .slice A0_3 l0_3.length c0_3] 37 (0, 0)) (by (with_reducible repeat (first | refine blk_drewN ?_ _ | refine blk_drew ?_ | refine blk_alloc ?_ _)); refine blk_far ?_ NB169_174.out _; (with_reducible repeat (first | refine blk_drewN ?_ _ | refine blk_drew ?_ | refine blk_alloc ?_ _)); refine blk_far ?_ NB169_174.out _; (with_reducible repeat (first | refine blk_drewN ?_ _ | refine blk_drew ?_ | refine blk_alloc ?_ _)); refine blk_far ?_ NB169_174.out _; (with_reducible repeat (first | refine blk_drewN ?_ _ | refine blk_drew ?_ | refine blk_alloc ?_ _)); refine blk_far ?_ NB169_174.out _; (with_reducible repeat (first | refine blk_drewN ?_ _ | refine blk_drew ?_ | refine blk_alloc ?_ _)); refine blk_far ?_ NB169_174.out _; (with_reducible repeat (first | refine blk_drewN ?_ _ | refine blk_drew ?_ | refine blk_alloc ?_ _)); refine blk_far ?_ NB169_174.out _; (with_reducible repeat (first | refine blk_drewN ?_ _ | refine blk_drew ?_ | refine blk_alloc ?_ _)); refine blk_far ?_ NB169_174.out _; (with_reducible repeat (first | refine blk_drewN ?_ _ | refine blk_drew ?_ | refine blk_alloc ?_ _)); refine blk_far ?_ NB169_174.out _; (with_reducible repeat (first | refine blk_drewN ?_ _ | refine blk_drew ?_ | refine blk_alloc ?_ _)); exact BK169.out) hg (Kd.R_ne HO_3.out BK169.out (by decide))); have n2_ := am (Kd.V_afterv (ok := (fun k_ => some k_ ≠ (.slice (some ad173) t170.length co6 : Value).ownBlock ∧ k_ ≠ gb169 ∧ k_ ≠ gb174)) (by (with_reducible repeat (first | apply Kd.V_alloc | apply Kd.V_drewN | apply Kd.V_drew)); exact Kd.V_mono (Kd.V_far (p := ⟨gb174, 7, none⟩) (Kd.V_far (p := ⟨gb174, 6, none⟩) (Kd.V_far (p := ⟨gb174, 5, none⟩) (Kd.V_far (p := ⟨gb174, 4, none⟩) (Kd.V_far (p := ⟨gb174, 3, none⟩) (Kd.V_far (p := ⟨gb174, 2, none⟩) (Kd.V_far (p := ⟨gb174, 1, none⟩) (Kd.V_far (p := ⟨gb174, 0, none⟩) (Kd.V_mono HL173_5.out (fun k_ hk => (⟨hk, hk.2⟩ : _ ∧ k_ ≠ gb174))) (fun _ hk => hk.2) (.int .i64 ((rd_T55 t170 x9_1).f0))) (fun _ hk => hk.2) (.int .i64 ((rd_T55 t170 x9_1).f1))) (fun _ hk => hk.2) (.int .i64 ((rd_T55 t170 x9_1).f2))) (fun _ hk => hk.2) (.int .i64 ((rd_T55 t170 x9_1).f3))) (fun _ hk => hk.2) (.int .i64 ((rd_T55 t170 x9_1).f4))) (fun _ hk => hk.2) (.slice A173_5 ((rd_T55 t170 x9_1).f5).length c173_5)) (fun _ hk => hk.2) (.int .i64 ((rd_T55 t170 x9_1).f6))) (fun _ hk => hk.2) (.int .i64 ((rd_T55 t170 x9_1).f7))) (fun _ hk => ⟨⟨hk.1.1.2, ⟨hk.1.1.1.2, hk.1.2⟩⟩, hk.1.1.1.1⟩)) hg hat); have n3_ := am (blk_grown (g := gb174) (o := .cells #[.int .i64 ((rd_T55 t170 x9_1).f0), .int .i64 ((rd_T55 t170 x9_1).f1), .int .i64 ((rd_T55 t170 x9_1).f2), .int .i64 ((rd_T55 t170 x9_1).f3), .int .i64 ((rd_T55 t170 x9_1).f4), .slice A173_5 ((rd_T55 t170 x9_1).f5).length c173_5, .int .i64 ((rd_T55 t170 x9_1).f6), .int .i64 ((rd_T55 t170 x9_1).f7)] 55 (0, 0)) (by (with_reducible repeat (first | refine blk_drewN ?_ _ | refine blk_drew ?_ | refine blk_alloc ?_ _)); refine blk_put (cs := #[.int .i64 ((rd_T55 t170 x9_1).f0), .int .i64 ((rd_T55 t170 x9_1).f1), .int .i64 ((rd_T55 t170 x9_1).f2), .int .i64 ((rd_T55 t170 x9_1).f3), .int .i64 ((rd_T55 t170 x9_1).f4), .slice A173_5 ((rd_T55 t170 x9_1).f5).length c173_5, .int .i64 ((rd_T55 t170 x9_1).f6), .int .i64 0]) ?_ 7 _ rfl; (with_reducible repeat (first | refine blk_drewN ?_ _ | refine blk_drew ?_ | refine blk_alloc ?_ _)); refine blk_put (cs := #[.int .i64 ((rd_T55 t170 x9_1).f0), .int .i64 ((rd_T55 t170 x9_1).f1), .int .i64 ((rd_T55 t170 x9_1).f2), .int .i64 ((rd_T55 t170 x9_1).f3), .int .i64 ((rd_T55 t170 x9_1).f4), .slice A173_5 ((rd_T55 t170 x9_1).f5).length c173_5, .int .i64 0, .int .i64 0]) ?_ 6 _ rfl; (with_reducible repeat (first | refine blk_drewN ?_ _ | refine blk_drew ?_ | refine blk_alloc ?_ _)); refine blk_put (cs := #[.int .i64 ((rd_T55 t170 x9_1).f0), .int .i64 ((rd_T55 t170 x9_1).f1), .int .i64 ((rd_T55 t170 x9_1).f2), .int .i64 ((rd_T55 t170 x9_1).f3), .int .i64 ((rd_T55 t170 x9_1).f4), .slice none 0 0, .int .i64 0, .int .i64 0]) ?_ 5 _ rfl; (with_reducible repeat (first | refine blk_drewN ?_ _ | refine blk_drew ?_ | refine blk_alloc ?_ _)); refine blk_put (cs := #[.int .i64 ((rd_T55 t170 x9_1).f0), .int .i64 ((rd_T55 t170 x9_1).f1), .int .i64 ((rd_T55 t170 x9_1).f2), .int .i64 ((rd_T55 t170 x9_1).f3), .int .i64 0, .slice none 0 0, .int .i64 0, .int .i64 0]) ?_ 4 _ rfl; (with_reducible repeat (first | refine blk_drewN ?_ _ | refine blk_drew ?_ | refine blk_alloc ?_ _)); refine blk_put (cs := #[.int .i64 ((rd_T55 t170 x9_1).f0), .int .i64 ((rd_T55 t170 x9_1).f1), .int .i64 ((rd_T55 t170 x9_1).f2), .int .i64 0, .int .i64 0, .slice none 0 0, .int .i64 0, .int .i64 0]) ?_ 3 _ rfl; (with_reducible repeat (first | refine blk_drewN ?_ _ | refine blk_drew ?_ | refine blk_alloc ?_ _)); refine blk_put (cs := #[.int .i64 ((rd_T55 t170 x9_1).f0), .int .i64 ((rd_T55 t170 x9_1).f1), .int .i64 0, .int .i64 0, .int .i64 0, .slice none 0 0, .int .i64 0, .int .i64 0]) ?_ 2 _ rfl; (with_reducible repeat (first | refine blk_drewN ?_ _ | refine blk_drew ?_ | refine blk_alloc ?_ _)); refine blk_put (cs := #[.int .i64 ((rd_T55 t170 x9_1).f0), .int .i64 0, .int .i64 0, .int .i64 0, .int .i64 0, .slice none 0 0, .int .i64 0, .int .i64 0]) ?_ 1 _ rfl; (with_reducible repeat (first | refine blk_drewN ?_ _ | refine blk_drew ?_ | refine blk_alloc ?_ _)); refine blk_put (cs := #[.int .i64 0, .int .i64 0, .int .i64 0, .int .i64 0, .int .i64 0, .slice none 0 0, .int .i64 0, .int .i64 0]) ?_ 0 _ rfl; (with_reducible repeat (first | refine blk_drewN ?_ _ | refine blk_drew ?_ | refine blk_alloc ?_ _)); exact BK174.out) hg (Kd.R_ne HO_3.out BK174.out (by decide))); have n4_ := am (hb); have n5_ := am (ho); clear HO_7; clear BK169; clear HL173_5; clear BK174; clear HB; clear HO_3; have HO_7 := n0_; have BK169 := n1_; have HL173_5 := n2_; have BK174 := n3_; have HB := n4_; have HO177 := n5_; clear n0_ n1_ n2_ n3_ n4_ n5_; clear ho hb hg hat))
       go_roundg k1
       case measure => have := HK1.out; omega
       case rel => exact ⟨(y175), (wrap64 (x9_1 + 1)), (by first | rfl | (simp; done) | (simp [*]; done) | (have := TNA.out; unfold wrap64; congr 1; omega) | (unfold wrap64; omega)), H', ⟨by have := HK1.out; omega⟩, ⟨by (with_reducible repeat (first | apply Kd.R_alloc | apply Kd.R_drewN | apply Kd.R_drew)); exact HO177.out⟩, ⟨by (with_reducible repeat (first | apply Kd.N_alloc | apply Kd.N_drewN | apply Kd.N_drew)); exact Kd.N_mono HO_7.out (fun _ hk => ⟨hk.2, hk.1.1⟩)⟩, ⟨by (with_reducible repeat (first | refine blk_drewN ?_ _ | refine blk_drew ?_ | refine blk_alloc ?_ _)); exact BK169.out⟩, ⟨by repeat (first | (with_reducible first | exact HB.out | apply below_alloc | apply pw_below_drewN | apply below_drew1 | refine below_set ?_ GE169.out | refine below_set ?_ GE174.out) | exact HB.out)⟩⟩
      ·rw [if_neg c10] at H
       exact absurd H (by simp)
     ·rw [if_neg c9] at H
      exact absurd H (by simp)
    ·rw [if_neg c8] at H
     exact absurd H (by simp)
   ·rw [if_neg c7] at H
    have c7b0 : decide (x9_1 < (t170.length : Int)) = false := decide_eq_false c7
    clear c7
    obtain rfl := Option.some.inj H
    go_wp2
    go_ret
    exact ⟨_, by first | rfl | (simp [errW_none, errW_some] <;> rfl) | (simp [*, errW_none, errW_some] <;> rfl), by (with_reducible repeat (first | apply Kd.R_alloc | apply Kd.R_drewN | apply Kd.R_drew)); exact HO_3.out, by repeat (first | (with_reducible first | exact HB.out | apply below_alloc | apply pw_below_drewN | apply below_drew1 | refine below_set ?_ GE169.out) | exact HB.out)⟩
end Go.Proofs.YtbefbhghmommhaaGreatDoor.MWo
