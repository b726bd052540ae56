/- Texts that ClockTick leans on, laid together by a program (wip/d/merge.py): Hp, MHox53, Hj, MHox11, MHox8, Ha, Hb, Hc, MHox2, MHox3. -/
import Derived.Test.YtkhlndhleiaokaaDoorZClockTick1
set_option linter.unusedVariables false
set_option linter.unusedSimpArgs false
namespace Go.Proofs.YtkhlndhleiaokaaDoor.MHo
open Go.RowKit Go.Proofs.YtkhlndhleiaokaaDoorW.PrintWords Go.Proofs.YtkhlndhleiaokaaDoorW.PrintLast Go.Proofs.YtkhlndhleiaokaaDoorW.PrintMore
def PB (W : World) (g cap : Nat) (P : List S60) : Prop := ∃ cur : Array Value, W.heap[g]? = some (.cells cur 60 (0, 0)) ∧ cur.size = cap * 2 ∧ P.length ≤ cap ∧ cap ≤ maxLen ∧
  ∀ i x, P[i]? = some x → cur[i * 2]? = some (.int .i64 x.f0) ∧ cur[i * 2 + 1]? = some (.int .i64 x.f1)
theorem PB.of_R {W : World} {B : Nat} {ok : Nat → Prop} {v : Value} {P : List S60} (h : Kd.R k60 60 W B ok v P) (hp : 0 < P.length) : ∃ g cap, v = .slice (some ⟨g, 0, none⟩) P.length cap ∧ B ≤ g ∧ PB W g cap P := by
  obtain ⟨h0, inner, ⟨hlen, hor⟩, hreps⟩ := h
  have hsz : k60.sz = 2 := rfl
  rw [hsz] at hlen hor hreps
  rcases hor with ⟨_, h00⟩ | ⟨g, cap, cur, rfl, hb, hh, hn, hm, hs, ht⟩
  · omega
  · refine ⟨g, cap, rfl, hb, cur, hh, hs, hn, hm, fun i x hx => ?_⟩
    have hi : i < P.length := (List.getElem?_eq_some_iff.1 hx).1
    have hr := k60_openM (hreps.2 i x hx)
    rw [← ht] at hr
    have e0 : ((List.drop (i * 2) (List.take (P.length * 2) cur.toList)).take 2)[0]? = some (.int .i64 x.f0) := by rw [hr]; rfl
    have e1 : ((List.drop (i * 2) (List.take (P.length * 2) cur.toList)).take 2)[1]? = some (.int .i64 x.f1) := by rw [hr]; rfl
    rw [List.getElem?_take, if_pos (by omega), List.getElem?_drop, List.getElem?_take, if_pos (by omega), Array.getElem?_toList] at e0 e1
    exact ⟨e0, e1⟩
theorem PB.to_R {W : World} {g cap B : Nat} {ok : Nat → Prop} {P : List S60} (h : PB W g cap P) (hb : B ≤ g) (hok : ok g) : Kd.R k60 60 W B ok (.slice (some ⟨g, 0, none⟩) P.length cap) P := by
  obtain ⟨cur, hh, hs, hn, hm, hc⟩ := h
  have hsz : k60.sz = 2 := rfl
  refine ⟨fun k hk => ?_, cur.toList.take (P.length * 2), ⟨?_, .inr ⟨g, cap, cur, rfl, hb, hh, hn, hm, by rw [hsz]; exact hs, by rw [hsz]⟩⟩, ?_, fun j x hx => ?_⟩
  · simp [Value.ownBlock] at hk
    rw [← hk]; exact hok
  · rw [hsz, List.length_take, show cur.toList.length = cap * 2 from hs]; have e : (P.toArray).size = P.length := by simp
    first | omega | (simp; omega)
  · rw [hsz, List.length_take, show cur.toList.length = cap * 2 from hs]; have e : (P.toArray).size = P.length := by simp
    first | omega | (simp; omega)
  · rw [hsz]
    have hj : j < P.length := (List.getElem?_eq_some_iff.1 hx).1
    obtain ⟨c0, c1⟩ := hc j x hx
    have : ((List.drop (j * 2) (List.take (P.length * 2) cur.toList)).take 2) = [.int .i64 x.f0, .int .i64 x.f1] := by
      apply List.ext_getElem?
      intro m
      match m with
      | 0 => rw [List.getElem?_take, if_pos (by omega), List.getElem?_drop, List.getElem?_take, if_pos (by omega), Array.getElem?_toList]; exact c0
      | 1 => rw [List.getElem?_take, if_pos (by omega), List.getElem?_drop, List.getElem?_take, if_pos (by omega), Array.getElem?_toList]; exact c1
      | m + 2 => rw [List.getElem?_take, if_neg (by omega)]; rfl
    rw [this]
    exact k60_mkM _ _ _ x
theorem PB.put {W : World} {g cap : Nat} {P : List S60} (h : PB W g cap P) (i : Int) (h0 : 0 ≤ i) (h1 : i < P.length) (v : Int) : PB (W.setCell ⟨g, i.toNat * 2, none⟩ (.int .i64 v)) g cap (P.set i.toNat ⟨v, (rd_T60 P i).f1⟩) := by
  obtain ⟨cur, hh, hs, hn, hm, hc⟩ := h
  refine ⟨_, blk_set hh (i.toNat * 2) (.int .i64 v), by simpa using hs, by simpa using hn, hm, fun j x hx => ?_⟩
  have hlt : i.toNat < P.length := by omega
  by_cases e : j = i.toNat
  · subst e
    rw [List.getElem?_set_self hlt] at hx
    injection hx with hx
    subst hx
    have hr : P[i.toNat]? = some (rd_T60 P i) := by simp [rd_T60, List.getD_eq_getElem?_getD, hlt]
    obtain ⟨c0, c1⟩ := hc _ _ hr
    constructor
    · simp [Array.getElem?_setIfInBounds]; omega
    · rw [Array.getElem?_setIfInBounds_ne (by omega)]; exact c1
  · rw [List.getElem?_set_ne (Ne.symm e)] at hx
    obtain ⟨c0, c1⟩ := hc j x hx
    constructor
    · rw [Array.getElem?_setIfInBounds_ne (by omega)]; exact c0
    · rw [Array.getElem?_setIfInBounds_ne (by omega)]; exact c1
theorem PB.cell {W : World} {g cap : Nat} {P : List S60} (h : PB W g cap P) (i : Int) (h0 : 0 ≤ i) (h1 : i < P.length) : W.cell? ⟨g, i.toNat * 2, none⟩ = some (.int .i64 (rd_T60 P i).f0) ∧ W.frozen? ⟨g, i.toNat * 2, none⟩ = false := by
  obtain ⟨cur, hh, hs, hn, hm, hc⟩ := h
  have hlt : i.toNat < P.length := by omega
  have hr : P[i.toNat]? = some (rd_T60 P i) := by simp [rd_T60, List.getD_eq_getElem?_getD, hlt]
  exact ⟨(blk_cell hh _).trans (hc _ _ hr).1, blk_frozen hh _⟩
theorem PB.keep {W W' : World} {g cap : Nat} {P : List S60} (h : PB W g cap P) (hk : W'.heap[g]? = W.heap[g]?) : PB W' g cap P := by
  obtain ⟨cur, hh, r⟩ := h
  exact ⟨cur, hk.trans hh, r⟩
end Go.Proofs.YtkhlndhleiaokaaDoor.MHo
namespace Go.Proofs.YtkhlndhleiaokaaDoor.MHo
open Go.RowKit Go.Proofs.YtkhlndhleiaokaaDoorW.PrintWords Go.Proofs.YtkhlndhleiaokaaDoorW.PrintLast Go.Proofs.YtkhlndhleiaokaaDoorW.PrintMore
attribute [local go_sem] mp_u32s mp_u32m mp_u8s mp_u8m max2_int min2_int max_two min_two max_three min_three max_four min_four   -- for this text's walks alone
set_option linter.unusedVariables false
set_option linter.unusedSimpArgs false

/-! ### drumlineref26_ports: function 54 -/
def drumlineref26_ports.l0 : Nat → Int → Int → Int → List (S60) → List (S37) → Int → Int → Int → Int → Int → Int → Int → Int → Int → Int → Int → Option (Int)
 | 0, _, _, _, _, _, _, _, _, _, _, _, _, _, _, _, _ => none
 | k + 1, x1, x5, x6, x309000, x309001, x309002, x309003, x309004, x309005, x309006, x309007, x309008, x309009, x309010, x309011, x309012 => if x6 < (x309001.length : Int) then (if 0 ≤ x6 then (if ((rd_T37 x309001 x6).f0) = x1 then (drumlineref26_ports.l0 k x1 (wrap64 (x5 + 2)) (wrap64 (x6 + 1)) x309000 x309001 x309002 x309003 x309004 x309005 x309006 x309007 x309008 x309009 x309010 x309011 x309012) else (if ((rd_T37 x309001 x6).f1) = x1 then (drumlineref26_ports.l0 k x1 (wrap64 (x5 + 2)) (wrap64 (x6 + 1)) x309000 x309001 x309002 x309003 x309004 x309005 x309006 x309007 x309008 x309009 x309010 x309011 x309012) else (drumlineref26_ports.l0 k x1 x5 (wrap64 (x6 + 1)) x309000 x309001 x309002 x309003 x309004 x309005 x309006 x309007 x309008 x309009 x309010 x309011 x309012))) else (none)) else (some x5)
def drumlineref26_ports.f (k : Nat) (l0_0 : List (S60)) (l0_1 : List (S37)) (a0_2 : Int) (a0_3 : Int) (a0_4 : Int) (a0_5 : Int) (a0_6 : Int) (a0_7 : Int) (a0_8 : Int) (a0_9 : Int) (a0_10 : Int) (a0_11 : Int) (a0_12 : Int) (a1 : Int) : Option (Int) := drumlineref26_ports.l0 k a1 0 0 l0_0 l0_1 a0_2 a0_3 a0_4 a0_5 a0_6 a0_7 a0_8 a0_9 a0_10 a0_11 a0_12
theorem drumlineref26_ports.mono_l : ∀ k, (∀ y0 y1 y2 y3 y4 y5 y6 y7 y8 y9 y10 y11 y12 y13 y14 y15, LeO (drumlineref26_ports.l0 k y0 y1 y2 y3 y4 y5 y6 y7 y8 y9 y10 y11 y12 y13 y14 y15) (drumlineref26_ports.l0 (k + 1) y0 y1 y2 y3 y4 y5 y6 y7 y8 y9 y10 y11 y12 y13 y14 y15))
 | 0 => fun _ _ _ _ _ _ _ _ _ _ _ _ _ _ _ _ r h => by simp [drumlineref26_ports.l0] at h
 | k + 1 => by
  have ih0 := drumlineref26_ports.mono_l k
  ·intro y0 y1 y2 y3 y4 y5 y6 y7 y8 y9 y10 y11 y12 y13 y14 y15
   unfold drumlineref26_ports.l0
   repeat' first
   | (with_reducible exact ih0 _ _ _ _ _ _ _ _ _ _ _ _ _ _ _ _)
   | (with_reducible exact LeO.refl _)
   | (with_reducible exact LeO.none _)
   | (with_reducible refine LeO.ite ?_ ?_)
   | (with_reducible refine LeO.bind ?_ (fun _ => ?_))
   | exact ih0 _ _ _ _ _ _ _ _ _ _ _ _ _ _ _ _
   | exact LeO.none _
   | refine LeO.ite ?_ ?_
   | refine LeO.bind ?_ (fun _ => ?_)
theorem drumlineref26_ports.mono : ∀ a0 a1 a2 a3 a4 a5 a6 a7 a8 a9 a10 a11 a12 a13 k, LeO (drumlineref26_ports.f k a0 a1 a2 a3 a4 a5 a6 a7 a8 a9 a10 a11 a12 a13) (drumlineref26_ports.f (k + 1) a0 a1 a2 a3 a4 a5 a6 a7 a8 a9 a10 a11 a12 a13) := by
 intro a0 a1 a2 a3 a4 a5 a6 a7 a8 a9 a10 a11 a12 a13 k
 have ih0 := drumlineref26_ports.mono_l k
 unfold drumlineref26_ports.f
 repeat' first
   | (with_reducible exact ih0 _ _ _ _ _ _ _ _ _ _ _ _ _ _ _ _)
   | (with_reducible exact LeO.refl _)
   | (with_reducible exact LeO.none _)
   | (with_reducible refine LeO.ite ?_ ?_)
   | (with_reducible refine LeO.bind ?_ (fun _ => ?_))
   | exact ih0 _ _ _ _ _ _ _ _ _ _ _ _ _ _ _ _
   | exact LeO.none _
   | refine LeO.ite ?_ ?_
   | refine LeO.bind ?_ (fun _ => ?_)
set_option maxHeartbeats 8000000 in
set_option maxRecDepth 100000 in
theorem drumlineref26_ports.calls (k : Nat) (A0_0 : Option Addr) (c0_0 : Nat) (l0_0 : List (S60)) (A0_1 : Option Addr) (c0_1 : Nat) (l0_1 : List (S37)) (a0_2 : Int) (a0_3 : Int) (a0_4 : Int) (a0_5 : Int) (a0_6 : Int) (a0_7 : Int) (a0_8 : Int) (a0_9 : Int) (a0_10 : Int) (a0_11 : Int) (a0_12 : Int) (a1 : Int) (r : Int) (w : World) (hr0_0 : Kd.C k60 w A0_0 l0_0.length l0_0) (hc0_0 : l0_0.length ≤ c0_0) (hr0_1 : Kd.C k37 w A0_1 l0_1.length l0_1) (hc0_1 : l0_1.length ≤ c0_1) (h : drumlineref26_ports.f k l0_0 l0_1 a0_2 a0_3 a0_4 a0_5 a0_6 a0_7 a0_8 a0_9 a0_10 a0_11 a0_12 a1 = some r) :
  Calls Tryd.prog 54 #[.agg #[.slice A0_0 l0_0.length c0_0, .slice A0_1 l0_1.length c0_1, .int .i64 a0_2, .int .i64 a0_3, .int .i64 a0_4, .int .i64 a0_5, .int .i64 a0_6, .int .i64 a0_7, .int .i64 a0_8, .int .i64 a0_9, .int .i64 a0_10, .int .i64 a0_11, .int .i64 a0_12], .int .i64 a1] w fun e w' => e = .returned (.int .i64 r) ∧ Below w.heap.size w w' := by
 have hu25 := Tryd.underlying25
 have HR0_0 := Aside0.mk hr0_0
 have HC0_0 := Aside0.mk hc0_0
 clear hr0_0 hc0_0
 have HR0_1 := Aside0.mk hr0_1
 have HC0_1 := Aside0.mk hc0_1
 clear hr0_1 hc0_1
 have HB := Aside0.mk (Below.refl w.heap.size w)
 have H : (drumlineref26_ports.l0 k a1 0 0 l0_0 l0_1 a0_2 a0_3 a0_4 a0_5 a0_6 a0_7 a0_8 a0_9 a0_10 a0_11 a0_12) = some r := h
 clear h
 have H' := Aside0.mk H
 clear H
 go_enter Tryd.func54, Tryd.ntmps54
 go_wp2_with (first | ((with_reducible refine gate_dst (N := 2) rfl ?_); refine box_event ?hg (N := 2) ?hd (cs := #[.slice A0_0 l0_0.length c0_0, .slice A0_1 l0_1.length c0_1, .int .i64 a0_2, .int .i64 a0_3, .int .i64 a0_4, .int .i64 a0_5, .int .i64 a0_6, .int .i64 a0_7, .int .i64 a0_8, .int .i64 a0_9, .int .i64 a0_10, .int .i64 a0_11, .int .i64 a0_12]) (t := 25) ?hr ?_; (case hd => rfl); (case hg => rfl); (case hr => first | (go_simp; done) | (go_simp; rfl)); intro gb308 hg w3 hbox hb; have n0_ := Aside0.mk (below_step (by repeat (first | (with_reducible first | exact HB.out | apply below_alloc | apply pw_below_drewN | apply below_drew1) | exact HB.out)) hb); have n1_ := Aside0.mk (hbox); have n2_ := Aside0.mk ((by rw [hg]; exact (below_size (by repeat (first | (with_reducible first | exact HB.out | apply below_alloc | apply pw_below_drewN | apply below_drew1) | exact HB.out))) : w.heap.size ≤ gb308)); have n3_ := Aside0.mk ((by rw [hg]; exact (below_size (by repeat (first | (with_reducible first | exact HB.out | apply below_alloc | apply pw_below_drewN | apply below_drew1) | exact HB.out))) : w.heap.size ≤ gb308)); clear HB; have HB := n0_; have BK308 := n1_; have GW308 := n2_; have GE308 := n3_; clear n0_ n1_ n2_ n3_; clear hb hbox hg))
 go_loopg [5, 6] k (fun kq v5 v6 w' => ∃ (x5_1 : Int) (x6_1 : Int), v5 = .int .i64 x5_1 ∧ v6 = .int .i64 x6_1 ∧ Aside0 (drumlineref26_ports.l0 kq a1 x5_1 x6_1 l0_0 l0_1 a0_2 a0_3 a0_4 a0_5 a0_6 a0_7 a0_8 a0_9 a0_10 a0_11 a0_12 = some r) ∧ Aside0 (kq ≤ k) ∧ Aside0 (w'.heap[gb308]? = some (.cells #[(.slice A0_0 l0_0.length c0_0), (.slice A0_1 l0_1.length c0_1), .int .i64 a0_2, .int .i64 a0_3, .int .i64 a0_4, .int .i64 a0_5, .int .i64 a0_6, .int .i64 a0_7, .int .i64 a0_8, .int .i64 a0_9, .int .i64 a0_10, .int .i64 a0_11, .int .i64 a0_12] 25 (0, 0))) ∧ Aside0 (Below w.heap.size w w'))
 case atStart => exact ⟨(0), (0), (by first | rfl | (simp; done) | (simp [*]; done) | (have := TNA.out; unfold wrap64; congr 1; omega) | (unfold wrap64; omega)), (by first | rfl | (simp; done) | (simp [*]; done) | (have := TNA.out; unfold wrap64; congr 1; omega) | (unfold wrap64; omega)), H', ⟨Nat.le_refl _⟩, ⟨by (with_reducible repeat (first | refine blk_drewN ?_ _ | refine blk_drew ?_ | refine blk_alloc ?_ _)); exact BK308.out⟩, ⟨by repeat (first | (with_reducible first | exact HB.out | apply below_alloc | apply pw_below_drewN | apply below_drew1 | refine below_set ?_ GE308.out) | exact HB.out)⟩⟩
 case round =>
  clear H'
  try clear p2
  obtain ⟨x5_1, x6_1, rfl, rfl, HA, HK1, BK308, HB⟩ := hrel
  cases gk with
  | zero => exact absurd HA.out (by simp [drumlineref26_ports.l0])
  | succ k1 =>
   have H := HA.out
   clear HA
   simp only [drumlineref26_ports.l0] at H
   by_cases c4 : x6_1 < (l0_1.length : Int)
   ·rw [if_pos c4] at H
    have c4b0 : decide (x6_1 < (l0_1.length : Int)) = true := decide_eq_true c4
    clear c4
    by_cases c5 : 0 ≤ x6_1
    ·rw [if_pos c5] at H
     have c5b0 : decide (0 ≤ x6_1) = true := decide_eq_true c5
     clear c5
     by_cases c6 : ((rd_T37 l0_1 x6_1).f0) = a1
     ·rw [if_pos c6] at H
      have c6b0 : (((rd_T37 l0_1 x6_1).f0) == a1) = true := beq_iff_eq.mpr c6
      have c6b1 : (((rd_T37 l0_1 x6_1).f0) != a1) = false := bne_eq_false_iff_eq.mpr c6
      clear c6
      have H' := Aside0.mk H
      clear H
      obtain ⟨hcz7_0, hcz7_1, hcz7_2, hcz7_3, hcz7_4, hcz7_5, hcz7_6, hcz7_7, hcz7_8, hcz7_9, hcz7_10, hcz7_11, hcz7_12⟩ := cellsK13 BK308.out
      obtain ⟨hfz7_0, hfz7_1, hfz7_2, hfz7_3, hfz7_4, hfz7_5, hfz7_6, hfz7_7, hfz7_8, hfz7_9, hfz7_10, hfz7_11, hfz7_12⟩ := frozK13 BK308.out
      have p309 : 0 ≤ (x6_1 : Int) := of_decide_eq_true (by first | (with_reducible assumption) | assumption)
      have q309 : x6_1 < (l0_1.length : Int) := of_decide_eq_true (by first | (with_reducible assumption) | assumption)
      obtain ⟨ad309, e309, hx309_0, hx309_1, hx309_2, hx309_3, hx309_4, hx309_5⟩ := at_T37 HR0_1.out x6_1 p309 q309
      cases e309
      replace hx309_0 := (HB.out.cell (World.block_lt_of_cell? w _ hx309_0)).trans hx309_0
      replace hx309_1 := (HB.out.cell (World.block_lt_of_cell? w _ hx309_1)).trans hx309_1
      replace hx309_2 := (HB.out.cell (World.block_lt_of_cell? w _ hx309_2)).trans hx309_2
      replace hx309_3 := (HB.out.cell (World.block_lt_of_cell? w _ hx309_3)).trans hx309_3
      replace hx309_4 := (HB.out.cell (World.block_lt_of_cell? w _ hx309_4)).trans hx309_4
      replace hx309_5 := (HB.out.cell (World.block_lt_of_cell? w _ hx309_5)).trans hx309_5
      replace p309 := eq_true p309
      replace q309 := eq_true q309
      go_wp2
      go_roundg k1
      case measure => have := HK1.out; omega
      case rel => exact ⟨(wrap64 (x5_1 + 2)), (wrap64 (x6_1 + 1)), (by first | rfl | (simp; done) | (simp [*]; done) | (have := TNA.out; unfold wrap64; congr 1; omega) | (unfold wrap64; omega)), (by first | rfl | (simp; done) | (simp [*]; done) | (have := TNA.out; unfold wrap64; congr 1; omega) | (unfold wrap64; omega)), H', ⟨by have := HK1.out; omega⟩, ⟨by (with_reducible repeat (first | refine blk_drewN ?_ _ | refine blk_drew ?_ | refine blk_alloc ?_ _)); exact BK308.out⟩, ⟨by repeat (first | (with_reducible first | exact HB.out | apply below_alloc | apply pw_below_drewN | apply below_drew1 | refine below_set ?_ GE308.out) | exact HB.out)⟩⟩
     ·rw [if_neg c6] at H
      have c6b0 : (((rd_T37 l0_1 x6_1).f0) == a1) = false := beq_eq_false_iff_ne.mpr c6
      have c6b1 : (((rd_T37 l0_1 x6_1).f0) != a1) = true := bne_iff_ne.mpr c6
      by_cases c8 : ((rd_T37 l0_1 x6_1).f1) = a1
      ·rw [if_pos c8] at H
       have c8b0 : (((rd_T37 l0_1 x6_1).f1) == a1) = true := beq_iff_eq.mpr c8
       have c8b1 : (((rd_T37 l0_1 x6_1).f1) != a1) = false := bne_eq_false_iff_eq.mpr c8
       clear c8
       have H' := Aside0.mk H
       clear H
       obtain ⟨hcz9_0, hcz9_1, hcz9_2, hcz9_3, hcz9_4, hcz9_5, hcz9_6, hcz9_7, hcz9_8, hcz9_9, hcz9_10, hcz9_11, hcz9_12⟩ := cellsK13 BK308.out
       obtain ⟨hfz9_0, hfz9_1, hfz9_2, hfz9_3, hfz9_4, hfz9_5, hfz9_6, hfz9_7, hfz9_8, hfz9_9, hfz9_10, hfz9_11, hfz9_12⟩ := frozK13 BK308.out
       have p309 : 0 ≤ (x6_1 : Int) := of_decide_eq_true (by first | (with_reducible assumption) | assumption)
       have q309 : x6_1 < (l0_1.length : Int) := of_decide_eq_true (by first | (with_reducible assumption) | assumption)
       obtain ⟨ad309, e309, hx309_0, hx309_1, hx309_2, hx309_3, hx309_4, hx309_5⟩ := at_T37 HR0_1.out x6_1 p309 q309
       cases e309
       replace hx309_0 := (HB.out.cell (World.block_lt_of_cell? w _ hx309_0)).trans hx309_0
       replace hx309_1 := (HB.out.cell (World.block_lt_of_cell? w _ hx309_1)).trans hx309_1
       replace hx309_2 := (HB.out.cell (World.block_lt_of_cell? w _ hx309_2)).trans hx309_2
       replace hx309_3 := (HB.out.cell (World.block_lt_of_cell? w _ hx309_3)).trans hx309_3
       replace hx309_4 := (HB.out.cell (World.block_lt_of_cell? w _ hx309_4)).trans hx309_4
       replace hx309_5 := (HB.out.cell (World.block_lt_of_cell? w _ hx309_5)).trans hx309_5
       replace p309 := eq_true p309
       replace q309 := eq_true q309
       have p310 : 0 ≤ (x6_1 : Int) := of_decide_eq_true (by first | (with_reducible assumption) | assumption)
       have q310 : x6_1 < (l0_1.length : Int) := of_decide_eq_true (by first | (with_reducible assumption) | assumption)
       obtain ⟨ad310, e310, hx310_0, hx310_1, hx310_2, hx310_3, hx310_4, hx310_5⟩ := at_T37 HR0_1.out x6_1 p310 q310
       obtain rfl : ad309 = ad310 := (by injection e310)
       replace hx310_0 := (HB.out.cell (World.block_lt_of_cell? w _ hx310_0)).trans hx310_0
       replace hx310_1 := (HB.out.cell (World.block_lt_of_cell? w _ hx310_1)).trans hx310_1
       replace hx310_2 := (HB.out.cell (World.block_lt_of_cell? w _ hx310_2)).trans hx310_2
       replace hx310_3 := (HB.out.cell (World.block_lt_of_cell? w _ hx310_3)).trans hx310_3
       replace hx310_4 := (HB.out.cell (World.block_lt_of_cell? w _ hx310_4)).trans hx310_4
       replace hx310_5 := (HB.out.cell (World.block_lt_of_cell? w _ hx310_5)).trans hx310_5
       replace p310 := eq_true p310
       replace q310 := eq_true q310
       go_wp2
       go_roundg k1
       case measure => have := HK1.out; omega
       case rel => exact ⟨(wrap64 (x5_1 + 2)), (wrap64 (x6_1 + 1)), (by first | rfl | (simp; done) | (simp [*]; done) | (have := TNA.out; unfold wrap64; congr 1; omega) | (unfold wrap64; omega)), (by first | rfl | (simp; done) | (simp [*]; done) | (have := TNA.out; unfold wrap64; congr 1; omega) | (unfold wrap64; omega)), H', ⟨by have := HK1.out; omega⟩, ⟨by (with_reducible repeat (first | refine blk_drewN ?_ _ | refine blk_drew ?_ | refine blk_alloc ?_ _)); exact BK308.out⟩, ⟨by repeat (first | (with_reducible first | exact HB.out | apply below_alloc | apply pw_below_drewN | apply below_drew1 | refine below_set ?_ GE308.out) | exact HB.out)⟩⟩
      ·rw [if_neg c8] at H
       have c8b0 : (((rd_T37 l0_1 x6_1).f1) == a1) = false := beq_eq_false_iff_ne.mpr c8
       have c8b1 : (((rd_T37 l0_1 x6_1).f1) != a1) = true := bne_iff_ne.mpr c8
       have H' := Aside0.mk H
       clear H
       obtain ⟨hcz10_0, hcz10_1, hcz10_2, hcz10_3, hcz10_4, hcz10_5, hcz10_6, hcz10_7, hcz10_8, hcz10_9, hcz10_10, hcz10_11, hcz10_12⟩ := cellsK13 BK308.out
       obtain ⟨hfz10_0, hfz10_1, hfz10_2, hfz10_3, hfz10_4, hfz10_5, hfz10_6, hfz10_7, hfz10_8, hfz10_9, hfz10_10, hfz10_11, hfz10_12⟩ := frozK13 BK308.out
       have p309 : 0 ≤ (x6_1 : Int) := of_decide_eq_true (by first | (with_reducible assumption) | assumption)
       have q309 : x6_1 < (l0_1.length : Int) := of_decide_eq_true (by first | (with_reducible assumption) | assumption)
       obtain ⟨ad309, e309, hx309_0, hx309_1, hx309_2, hx309_3, hx309_4, hx309_5⟩ := at_T37 HR0_1.out x6_1 p309 q309
       cases e309
       replace hx309_0 := (HB.out.cell (World.block_lt_of_cell? w _ hx309_0)).trans hx309_0
       replace hx309_1 := (HB.out.cell (World.block_lt_of_cell? w _ hx309_1)).trans hx309_1
       replace hx309_2 := (HB.out.cell (World.block_lt_of_cell? w _ hx309_2)).trans hx309_2
       replace hx309_3 := (HB.out.cell (World.block_lt_of_cell? w _ hx309_3)).trans hx309_3
       replace hx309_4 := (HB.out.cell (World.block_lt_of_cell? w _ hx309_4)).trans hx309_4
       replace hx309_5 := (HB.out.cell (World.block_lt_of_cell? w _ hx309_5)).trans hx309_5
       replace p309 := eq_true p309
       replace q309 := eq_true q309
       have p310 : 0 ≤ (x6_1 : Int) := of_decide_eq_true (by first | (with_reducible assumption) | assumption)
       have q310 : x6_1 < (l0_1.length : Int) := of_decide_eq_true (by first | (with_reducible assumption) | assumption)
       obtain ⟨ad310, e310, hx310_0, hx310_1, hx310_2, hx310_3, hx310_4, hx310_5⟩ := at_T37 HR0_1.out x6_1 p310 q310
       obtain rfl : ad309 = ad310 := (by injection e310)
       replace hx310_0 := (HB.out.cell (World.block_lt_of_cell? w _ hx310_0)).trans hx310_0
       replace hx310_1 := (HB.out.cell (World.block_lt_of_cell? w _ hx310_1)).trans hx310_1
       replace hx310_2 := (HB.out.cell (World.block_lt_of_cell? w _ hx310_2)).trans hx310_2
       replace hx310_3 := (HB.out.cell (World.block_lt_of_cell? w _ hx310_3)).trans hx310_3
       replace hx310_4 := (HB.out.cell (World.block_lt_of_cell? w _ hx310_4)).trans hx310_4
       replace hx310_5 := (HB.out.cell (World.block_lt_of_cell? w _ hx310_5)).trans hx310_5
       replace p310 := eq_true p310
       replace q310 := eq_true q310
       go_wp2
       go_roundg k1
       case measure => have := HK1.out; omega
       case rel => exact ⟨(x5_1), (wrap64 (x6_1 + 1)), (by first | rfl | (simp; done) | (simp [*]; done) | (have := TNA.out; unfold wrap64; congr 1; omega) | (unfold wrap64; omega)), (by first | rfl | (simp; done) | (simp [*]; done) | (have := TNA.out; unfold wrap64; congr 1; omega) | (unfold wrap64; omega)), H', ⟨by have := HK1.out; omega⟩, ⟨by (with_reducible repeat (first | refine blk_drewN ?_ _ | refine blk_drew ?_ | refine blk_alloc ?_ _)); exact BK308.out⟩, ⟨by repeat (first | (with_reducible first | exact HB.out | apply below_alloc | apply pw_below_drewN | apply below_drew1 | refine below_set ?_ GE308.out) | exact HB.out)⟩⟩
    ·rw [if_neg c5] at H
     exact absurd H (by simp)
   ·rw [if_neg c4] at H
    have c4b0 : decide (x6_1 < (l0_1.length : Int)) = false := decide_eq_false c4
    clear c4
    obtain rfl := Option.some.inj H
    obtain ⟨hcz11_0, hcz11_1, hcz11_2, hcz11_3, hcz11_4, hcz11_5, hcz11_6, hcz11_7, hcz11_8, hcz11_9, hcz11_10, hcz11_11, hcz11_12⟩ := cellsK13 BK308.out
    obtain ⟨hfz11_0, hfz11_1, hfz11_2, hfz11_3, hfz11_4, hfz11_5, hfz11_6, hfz11_7, hfz11_8, hfz11_9, hfz11_10, hfz11_11, hfz11_12⟩ := frozK13 BK308.out
    go_wp2
    go_ret
    exact ⟨by first | rfl | (simp [errW_none, errW_some] <;> rfl) | (simp [*, errW_none, errW_some] <;> rfl), by repeat (first | (with_reducible first | exact HB.out | apply below_alloc | apply pw_below_drewN | apply below_drew1 | refine below_set ?_ GE308.out) | exact HB.out)⟩

end Go.Proofs.YtkhlndhleiaokaaDoor.MHo
set_option linter.unusedVariables false
set_option linter.unusedSimpArgs false
namespace Go.Proofs.YtkhlndhleiaokaaDoor.MHo
open Go.RowKit Go.Proofs.YtkhlndhleiaokaaDoorW.PrintWords Go.Proofs.YtkhlndhleiaokaaDoorW.PrintLast Go.Proofs.YtkhlndhleiaokaaDoorW.PrintMore
attribute [local go_sem] max2_int min2_int max_two min_two
set_option maxHeartbeats 8000000 in
set_option maxRecDepth 10000 in
theorem joined_walk (bc g cP c1 B : Nat) (A1 : Option Addr) (P : List S60) (L : List S37) (a2 a3 a4 a5 a6 a7 a8 a9 a10 a11 a12 a b x y m n : Int) (w : World)
    (ho : w.heap[bc]? = some (.cells #[.slice (some ⟨g, 0, none⟩) P.length cP, .slice A1 L.length c1, .int .i64 a2, .int .i64 a3, .int .i64 a4, .int .i64 a5, .int .i64 a6, .int .i64 a7, .int .i64 a8, .int .i64 a9, .int .i64 a10, .int .i64 a11, .int .i64 a12] 25)) (hP : PB w g cP P) (hL : Kd.R k37 37 w B (fun _ => True) (.slice A1 L.length c1) L) (hBc : B ≤ bc) (hBg : B ≤ g)
    (ha0 : 0 ≤ a) (ha1 : a < P.length) (hb0 : 0 ≤ b) (hb1 : b < P.length)
    (hx : drumlineref26_ports.f 100 P L a2 a3 a4 a5 a6 a7 a8 a9 a10 a11 a12 a = some x) (hy : drumlineref26_ports.f 100 P L a2 a3 a4 a5 a6 a7 a8 a9 a10 a11 a12 b = some y) (hx0 : 0 ≤ x) (hx1 : x ≤ 100) (hy0 : 0 ≤ y) (hy1 : y ≤ 100)
    (hm : (if (rd_T60 P a).f0 < x + 6 then x + 6 else (rd_T60 P a).f0) = m) (hn : (if (rd_T60 (P.set a.toNat ⟨m, (rd_T60 P a).f1⟩) b).f0 < y + 6 then y + 6 else (rd_T60 (P.set a.toNat ⟨m, (rd_T60 P a).f1⟩) b).f0) = n) :
    Calls Tryd.prog 40 #[.pointer (some ⟨bc, 0, none⟩), .int .i64 a, .int .i64 b] w fun e w' => e = .returned (.agg #[.int .i64 a, .int .i64 b, .int .i64 x, .int .i64 (x + 1), .int .i64 y, .int .i64 (y + 1)]) ∧
      w'.heap[bc]? = some (.cells #[.slice (some ⟨g, 0, none⟩) P.length cP, .slice A1 L.length c1, .int .i64 a2, .int .i64 a3, .int .i64 a4, .int .i64 a5, .int .i64 a6, .int .i64 a7, .int .i64 a8, .int .i64 a9, .int .i64 a10, .int .i64 a11, .int .i64 a12] 25) ∧ PB w' g cP ((P.set a.toNat ⟨m, (rd_T60 P a).f1⟩).set b.toNat ⟨n, (rd_T60 (P.set a.toNat ⟨m, (rd_T60 P a).f1⟩) b).f1⟩) ∧ Kd.R k37 37 w' B (fun _ => True) (.slice A1 L.length c1) L ∧ Below B w w' ∧ ∀ k, k < w.heap.size → k ≠ g → w'.heap[k]? = w.heap[k]? := by
  have HO := Aside0.mk ho
  have HP := Aside0.mk hP
  have HL := Aside0.mk hL
  have HG : Aside0 (g < w.heap.size ∧ bc < w.heap.size ∧ g ≠ bc) := by
    obtain ⟨cur, h1, _⟩ := hP
    refine ⟨blk_lt h1, blk_lt ho, ?_⟩
    rintro rfl
    rw [h1] at ho
    injection ho with ho
    injection ho with _ ho _
    exact absurd ho (by decide)
  have HX := Aside0.mk hx
  have HY := Aside0.mk hy
  have HXY := Aside0.mk (show 0 ≤ x ∧ x ≤ 100 ∧ 0 ≤ y ∧ y ≤ 100 from ⟨hx0, hx1, hy0, hy1⟩)
  have Hm := Aside0.mk hm
  have Hn := Aside0.mk hn
  have HBB := Aside0.mk (show B ≤ bc ∧ B ≤ g from ⟨hBc, hBg⟩)
  have HA := Aside0.mk (show (0 ≤ a ∧ a < (P.length : Int)) ∧ 0 ≤ b ∧ b < (P.length : Int) from ⟨⟨ha0, ha1⟩, hb0, hb1⟩)
  have hwx : wrap64 (x + 1) = x + 1 := by unfold wrap64; omega
  have hwy : wrap64 (y + 1) = y + 1 := by unfold wrap64; omega
  have hwx6 : wrap64 (x + 6) = x + 6 := by unfold wrap64; omega
  have hwy6 : wrap64 (y + 6) = y + 6 := by unfold wrap64; omega
  clear ho hP hL hx hy hx0 hx1 hy0 hy1 hm hn hBc hBg ha0 ha1 hb0 hb1
  go_enter Tryd.func40, Tryd.ntmps40
  go_upto_region 2 with fail
  have hCP := Aside0.mk (Kd.R_reads' (HP.out.to_R (ok := fun _ => True) HBB.out.2 trivial)).2
  have hCL := Aside0.mk (Kd.R_reads' HL.out).2
  have hZ0 : (w.alloc (.cells #[.int .i64 0, .int .i64 0, .int .i64 0, .int .i64 0, .int .i64 0, .int .i64 0] 37)).heap[w.heap.size]? = some (.cells #[.int .i64 0, .int .i64 0, .int .i64 0, .int .i64 0, .int .i64 0, .int .i64 0] 37) := heap_alloc_new _ _
  have HZ1 : Aside0 (((w.alloc (.cells #[.int .i64 0, .int .i64 0, .int .i64 0, .int .i64 0, .int .i64 0, .int .i64 0] 37)).alloc (.cells #[.int .i64 a, .int .i64 b, .int .i64 0, .int .i64 0, .int .i64 0, .int .i64 0] 37)).heap[w.heap.size]? = some (.cells #[.int .i64 0, .int .i64 0, .int .i64 0, .int .i64 0, .int .i64 0, .int .i64 0] 37)) := ⟨((below_alloc (Below.refl _ (w.alloc (.cells #[.int .i64 0, .int .i64 0, .int .i64 0, .int .i64 0, .int .i64 0, .int .i64 0] 37))) _).block _ (blk_lt hZ0)).trans hZ0⟩
  have HL1 : Aside0 (((w.alloc (.cells #[.int .i64 0, .int .i64 0, .int .i64 0, .int .i64 0, .int .i64 0, .int .i64 0] 37)).alloc (.cells #[.int .i64 a, .int .i64 b, .int .i64 0, .int .i64 0, .int .i64 0, .int .i64 0] 37)).heap[w.heap.size + 1]? = some (.cells #[.int .i64 a, .int .i64 b, .int .i64 0, .int .i64 0, .int .i64 0, .int .i64 0] 37)) := ⟨by have := heap_alloc_new (w.alloc (.cells #[.int .i64 0, .int .i64 0, .int .i64 0, .int .i64 0, .int .i64 0, .int .i64 0] 37)) (.cells #[.int .i64 a, .int .i64 b, .int .i64 0, .int .i64 0, .int .i64 0, .int .i64 0] 37); simpa using this⟩
  have HB1 := Aside0.mk (below_alloc (below_alloc (Below.refl w.heap.size w) (Obj.cells #[.int .i64 0, .int .i64 0, .int .i64 0, .int .i64 0, .int .i64 0, .int .i64 0] 37)) (Obj.cells #[.int .i64 a, .int .i64 b, .int .i64 0, .int .i64 0, .int .i64 0, .int .i64 0] 37))
  generalize (w.alloc (.cells #[.int .i64 0, .int .i64 0, .int .i64 0, .int .i64 0, .int .i64 0, .int .i64 0] 37)).alloc (.cells #[.int .i64 a, .int .i64 b, .int .i64 0, .int .i64 0, .int .i64 0, .int .i64 0] 37) = w1 at *
  clear hZ0
  obtain ⟨bl, hbl⟩ : ∃ bl, bl = w.heap.size + 1 := ⟨_, rfl⟩
  obtain ⟨bz, hbz⟩ : ∃ bz, bz = w.heap.size := ⟨_, rfl⟩
  rw [← hbl, ← hbz]
  rw [← hbl] at HL1
  rw [← hbz] at HZ1
  have HNE : Aside0 (bz ≠ bl ∧ w.heap.size ≤ bl ∧ w.heap.size ≤ bz ∧ bl ≠ bc ∧ bz ≠ bc ∧ bl ≠ g ∧ bz ≠ g) := ⟨by have := HG.out; omega⟩
  clear hbl hbz
  have HBd := Aside0.mk (below_drew HB1.out)
  have HOd : Aside0 (w1.drew.heap[bc]? = some (.cells #[.slice (some ⟨g, 0, none⟩) P.length cP, .slice A1 L.length c1, .int .i64 a2, .int .i64 a3, .int .i64 a4, .int .i64 a5, .int .i64 a6, .int .i64 a7, .int .i64 a8, .int .i64 a9, .int .i64 a10, .int .i64 a11, .int .i64 a12] 25)) := ⟨(HBd.out.block bc HG.out.2.1).trans HO.out⟩
  have HLd : Aside0 (w1.drew.heap[bl]? = some (.cells #[.int .i64 a, .int .i64 b, .int .i64 0, .int .i64 0, .int .i64 0, .int .i64 0] 37)) := ⟨HL1.out⟩
  have HZd : Aside0 (w1.drew.heap[bz]? = some (.cells #[.int .i64 0, .int .i64 0, .int .i64 0, .int .i64 0, .int .i64 0, .int .i64 0] 37)) := ⟨HZ1.out⟩
  have d0 : w1.drew.cell? ⟨bc, 0, none⟩ = some (.slice (some ⟨g, 0, none⟩) P.length cP) := (blk_cell HOd.out 0).trans rfl
  have d1 : w1.drew.cell? ⟨bc, 1, none⟩ = some (.slice A1 L.length c1) := (blk_cell HOd.out 1).trans rfl
  have d2 : w1.drew.cell? ⟨bc, 2, none⟩ = some (.int .i64 a2) := (blk_cell HOd.out 2).trans rfl
  have d3 : w1.drew.cell? ⟨bc, 3, none⟩ = some (.int .i64 a3) := (blk_cell HOd.out 3).trans rfl
  have d4 : w1.drew.cell? ⟨bc, 4, none⟩ = some (.int .i64 a4) := (blk_cell HOd.out 4).trans rfl
  have d5 : w1.drew.cell? ⟨bc, 5, none⟩ = some (.int .i64 a5) := (blk_cell HOd.out 5).trans rfl
  have d6 : w1.drew.cell? ⟨bc, 6, none⟩ = some (.int .i64 a6) := (blk_cell HOd.out 6).trans rfl
  have d7 : w1.drew.cell? ⟨bc, 7, none⟩ = some (.int .i64 a7) := (blk_cell HOd.out 7).trans rfl
  have d8 : w1.drew.cell? ⟨bc, 8, none⟩ = some (.int .i64 a8) := (blk_cell HOd.out 8).trans rfl
  have d9 : w1.drew.cell? ⟨bc, 9, none⟩ = some (.int .i64 a9) := (blk_cell HOd.out 9).trans rfl
  have d10 : w1.drew.cell? ⟨bc, 10, none⟩ = some (.int .i64 a10) := (blk_cell HOd.out 10).trans rfl
  have d11 : w1.drew.cell? ⟨bc, 11, none⟩ = some (.int .i64 a11) := (blk_cell HOd.out 11).trans rfl
  have d12 : w1.drew.cell? ⟨bc, 12, none⟩ = some (.int .i64 a12) := (blk_cell HOd.out 12).trans rfl
  clear HL1 HZ1 HB1
  refine start_ (n := 12) (S := fun w' => w'.cell? ⟨bc, 0, none⟩ = some (.slice (some ⟨g, 0, none⟩) P.length cP) ∧ w'.cell? ⟨bc, 1, none⟩ = some (.slice A1 L.length c1) ∧ w'.cell? ⟨bc, 2, none⟩ = some (.int .i64 a2) ∧ w'.cell? ⟨bc, 3, none⟩ = some (.int .i64 a3) ∧ w'.cell? ⟨bc, 4, none⟩ = some (.int .i64 a4) ∧ w'.cell? ⟨bc, 5, none⟩ = some (.int .i64 a5) ∧ w'.cell? ⟨bc, 6, none⟩ = some (.int .i64 a6) ∧ w'.cell? ⟨bc, 7, none⟩ = some (.int .i64 a7) ∧ w'.cell? ⟨bc, 8, none⟩ = some (.int .i64 a8) ∧ w'.cell? ⟨bc, 9, none⟩ = some (.int .i64 a9) ∧ w'.cell? ⟨bc, 10, none⟩ = some (.int .i64 a10) ∧ w'.cell? ⟨bc, 11, none⟩ = some (.int .i64 a11) ∧ w'.cell? ⟨bc, 12, none⟩ = some (.int .i64 a12)) (ds := []) #[false, false, false, false, false, false, false, false, false, false, false, false] (by kernel_rfl) rfl rfl ⟨d0, d1, d2, d3, d4, d5, d6, d7, d8, d9, d10, d11, d12⟩ (fun hHeld => ?_)
  generalize w1.drew = wd at HBd HOd HLd HZd d0 d1 d2 d3 d4 d5 d6 d7 d8 d9 d10 d11 d12 hHeld ⊢
  refine pure_ (i := 0) (N := some 13) (v := ?_) (a' := ?_) #[true, false, false, false, false, false, false, false, false, false, false, false] rfl rfl (by kernel_rfl) (fun _ _ _ h => h) (Or.inl ⟨by rfl, ?_⟩) ?_ ?_
  rotate_left
  · intro w'
    go_simp
    with_reducible rfl
  rotate_left
  · simp only [Act.put, List.setIfInBounds_toArray, List.set_cons_zero, List.set_cons_succ, i64_w, i32_w]
    rfl
  refine pure_ (i := 1) (N := some 14) (v := ?_) (a' := ?_) #[true, true, false, false, false, false, false, false, false, false, false, false] rfl rfl (by kernel_rfl) (fun _ _ _ h => h) (Or.inl ⟨by rfl, ?_⟩) ?_ ?_
  rotate_left
  · intro w'
    go_simp
    with_reducible rfl
  rotate_left
  · simp only [Act.put, List.setIfInBounds_toArray, List.set_cons_zero, List.set_cons_succ, i64_w, i32_w]
    rfl
  refine pure_ (i := 3) (N := some 16) (v := ?_) (a' := ?_) #[true, true, false, true, false, false, false, false, false, false, false, false] rfl rfl (by kernel_rfl) (fun _ _ _ h => h) (Or.inl ⟨by rfl, ?_⟩) ?_ ?_
  rotate_left
  · intro w'
    go_simp
    with_reducible rfl
  rotate_left
  · simp only [Act.put, List.setIfInBounds_toArray, List.set_cons_zero, List.set_cons_succ, i64_w, i32_w]
    rfl
  refine pure_ (i := 5) (N := some 18) (v := ?_) (a' := ?_) #[true, true, false, true, false, true, false, false, false, false, false, false] rfl rfl (by kernel_rfl) (fun _ _ _ h => h) (Or.inl ⟨by rfl, ?_⟩) ?_ ?_
  rotate_left
  · intro w'
    go_simp
    with_reducible rfl
  rotate_left
  · simp only [Act.put, List.setIfInBounds_toArray, List.set_cons_zero, List.set_cons_succ, i64_w, i32_w]
    rfl
  refine pure_ (i := 6) (N := some 19) (v := ?_) (a' := ?_) #[true, true, false, true, false, true, true, false, false, false, false, false] rfl rfl (by kernel_rfl) (fun _ _ _ h => h) (Or.inl ⟨by rfl, ?_⟩) ?_ ?_
  rotate_left
  · intro w'
    go_simp
    with_reducible rfl
  rotate_left
  · simp only [Act.put, List.setIfInBounds_toArray, List.set_cons_zero, List.set_cons_succ, i64_w, i32_w]
    rfl
  refine pure_ (i := 8) (N := some 21) (v := ?_) (a' := ?_) #[true, true, false, true, false, true, true, false, true, false, false, false] rfl rfl (by kernel_rfl) (fun _ _ _ h => h) (Or.inl ⟨by rfl, ?_⟩) ?_ ?_
  rotate_left
  · intro w'
    go_simp
    with_reducible rfl
  rotate_left
  · simp only [Act.put, List.setIfInBounds_toArray, List.set_cons_zero, List.set_cons_succ, i64_w, i32_w]
    rfl
  refine take_ (i := 2) (N := some 15) (v := ?_) (a' := ?_) #[true, true, true, true, false, true, true, false, true, false, false, false] rfl rfl (by kernel_rfl) (fun _ _ _ h => h) (Or.inl ⟨by rfl, ?_⟩) hHeld ?_ ?_
  rotate_left
  · rintro w' ⟨s0, s1, s2, s3, s4, s5, s6, s7, s8, s9, s10, s11, s12⟩
    go_simp
    with_reducible rfl
  rotate_left
  · simp only [Act.put, List.setIfInBounds_toArray, List.set_cons_zero, List.set_cons_succ, i64_w, i32_w]
    rfl
  refine take_ (i := 7) (N := some 20) (v := ?_) (a' := ?_) #[true, true, true, true, false, true, true, true, true, false, false, false] rfl rfl (by kernel_rfl) (fun _ _ _ h => h) (Or.inl ⟨by rfl, ?_⟩) hHeld ?_ ?_
  rotate_left
  · rintro w' ⟨s0, s1, s2, s3, s4, s5, s6, s7, s8, s9, s10, s11, s12⟩
    go_simp
    with_reducible rfl
  rotate_left
  · simp only [Act.put, List.setIfInBounds_toArray, List.set_cons_zero, List.set_cons_succ, i64_w, i32_w]
    rfl
  refine one_ (i := 4) (N := some 17) #[true, true, true, true, true, true, true, true, true, false, false, false] rfl rfl (by kernel_rfl) (by decide) (fun K hK => ?_)
  refine goes_ Tryd.func54 (by kernel_rfl) rfl #[.agg #[.slice (some ⟨g, 0, none⟩) P.length cP, .slice A1 L.length c1, .int .i64 a2, .int .i64 a3, .int .i64 a4, .int .i64 a5, .int .i64 a6, .int .i64 a7, .int .i64 a8, .int .i64 a9, .int .i64 a10, .int .i64 a11, .int .i64 a12], .int .i64 a] (by rfl) rfl rfl (by simp only [List.map_toArray, List.map_cons, List.map_nil]; rfl) ?_
  with_reducible refine (drumlineref26_ports.calls 100 (some ⟨g, 0, none⟩) cP P A1 c1 L a2 a3 a4 a5 a6 a7 a8 a9 a10 a11 a12 a x _ (Kd.C_below hCP.out.2 HBd.out) hCP.out.1 (Kd.C_below hCL.out.2 HBd.out) hCL.out.1 HX.out).mono ?_
  rintro e w3 ⟨rfl, hb⟩
  have HB3 := Aside0.mk (below_step HBd.out hb)
  have HO3 := Aside0.mk ((hb.block bc (blk_lt HOd.out)).trans HOd.out)
  have HL3 := Aside0.mk ((hb.block bl (blk_lt HLd.out)).trans HLd.out)
  have HZ3 := Aside0.mk ((hb.block bz (blk_lt HZd.out)).trans HZd.out)
  have f0 : w3.cell? ⟨bc, 0, none⟩ = some (.slice (some ⟨g, 0, none⟩) P.length cP) := (blk_cell HO3.out 0).trans rfl
  have f1 : w3.cell? ⟨bc, 1, none⟩ = some (.slice A1 L.length c1) := (blk_cell HO3.out 1).trans rfl
  have f2 : w3.cell? ⟨bc, 2, none⟩ = some (.int .i64 a2) := (blk_cell HO3.out 2).trans rfl
  have f3 : w3.cell? ⟨bc, 3, none⟩ = some (.int .i64 a3) := (blk_cell HO3.out 3).trans rfl
  have f4 : w3.cell? ⟨bc, 4, none⟩ = some (.int .i64 a4) := (blk_cell HO3.out 4).trans rfl
  have f5 : w3.cell? ⟨bc, 5, none⟩ = some (.int .i64 a5) := (blk_cell HO3.out 5).trans rfl
  have f6 : w3.cell? ⟨bc, 6, none⟩ = some (.int .i64 a6) := (blk_cell HO3.out 6).trans rfl
  have f7 : w3.cell? ⟨bc, 7, none⟩ = some (.int .i64 a7) := (blk_cell HO3.out 7).trans rfl
  have f8 : w3.cell? ⟨bc, 8, none⟩ = some (.int .i64 a8) := (blk_cell HO3.out 8).trans rfl
  have f9 : w3.cell? ⟨bc, 9, none⟩ = some (.int .i64 a9) := (blk_cell HO3.out 9).trans rfl
  have f10 : w3.cell? ⟨bc, 10, none⟩ = some (.int .i64 a10) := (blk_cell HO3.out 10).trans rfl
  have f11 : w3.cell? ⟨bc, 11, none⟩ = some (.int .i64 a11) := (blk_cell HO3.out 11).trans rfl
  have f12 : w3.cell? ⟨bc, 12, none⟩ = some (.int .i64 a12) := (blk_cell HO3.out 12).trans rfl
  clear hb
  refine ⟨_, rfl, ?_⟩
  refine hK.out _ _ ⟨f0, f1, f2, f3, f4, f5, f6, f7, f8, f9, f10, f11, f12⟩ (fun hHeld => ?_)
  clear hK K
  refine norm_ (a' := ?_) ?_ ?_
  rotate_left
  · show Act.put _ (some 17) _ = _
    simp only [Act.put, List.setIfInBounds_toArray, List.set_cons_zero, List.set_cons_succ, i64_w, i32_w]
    rfl
  refine one_ (i := 9) (N := some 22) #[true, true, true, true, true, true, true, true, true, true, false, false] rfl rfl (by kernel_rfl) (by decide) (fun K hK => ?_)
  refine goes_ Tryd.func54 (by kernel_rfl) rfl #[.agg #[.slice (some ⟨g, 0, none⟩) P.length cP, .slice A1 L.length c1, .int .i64 a2, .int .i64 a3, .int .i64 a4, .int .i64 a5, .int .i64 a6, .int .i64 a7, .int .i64 a8, .int .i64 a9, .int .i64 a10, .int .i64 a11, .int .i64 a12], .int .i64 b] (by rfl) rfl rfl (by simp only [List.map_toArray, List.map_cons, List.map_nil]; rfl) ?_
  with_reducible refine (drumlineref26_ports.calls 100 (some ⟨g, 0, none⟩) cP P A1 c1 L a2 a3 a4 a5 a6 a7 a8 a9 a10 a11 a12 b y _ (Kd.C_below hCP.out.2 HB3.out) hCP.out.1 (Kd.C_below hCL.out.2 HB3.out) hCL.out.1 HY.out).mono ?_
  rintro e w4 ⟨rfl, hb⟩
  have HB4 := Aside0.mk (below_step HB3.out hb)
  have HO4 := Aside0.mk ((hb.block bc (blk_lt HO3.out)).trans HO3.out)
  have HL4 := Aside0.mk ((hb.block bl (blk_lt HL3.out)).trans HL3.out)
  have HZ4 := Aside0.mk ((hb.block bz (blk_lt HZ3.out)).trans HZ3.out)
  have h0 : w4.cell? ⟨bc, 0, none⟩ = some (.slice (some ⟨g, 0, none⟩) P.length cP) := (blk_cell HO4.out 0).trans rfl
  have h1 : w4.cell? ⟨bc, 1, none⟩ = some (.slice A1 L.length c1) := (blk_cell HO4.out 1).trans rfl
  have h2 : w4.cell? ⟨bc, 2, none⟩ = some (.int .i64 a2) := (blk_cell HO4.out 2).trans rfl
  have h3 : w4.cell? ⟨bc, 3, none⟩ = some (.int .i64 a3) := (blk_cell HO4.out 3).trans rfl
  have h4 : w4.cell? ⟨bc, 4, none⟩ = some (.int .i64 a4) := (blk_cell HO4.out 4).trans rfl
  have h5 : w4.cell? ⟨bc, 5, none⟩ = some (.int .i64 a5) := (blk_cell HO4.out 5).trans rfl
  have h6 : w4.cell? ⟨bc, 6, none⟩ = some (.int .i64 a6) := (blk_cell HO4.out 6).trans rfl
  have h7 : w4.cell? ⟨bc, 7, none⟩ = some (.int .i64 a7) := (blk_cell HO4.out 7).trans rfl
  have h8 : w4.cell? ⟨bc, 8, none⟩ = some (.int .i64 a8) := (blk_cell HO4.out 8).trans rfl
  have h9 : w4.cell? ⟨bc, 9, none⟩ = some (.int .i64 a9) := (blk_cell HO4.out 9).trans rfl
  have h10 : w4.cell? ⟨bc, 10, none⟩ = some (.int .i64 a10) := (blk_cell HO4.out 10).trans rfl
  have h11 : w4.cell? ⟨bc, 11, none⟩ = some (.int .i64 a11) := (blk_cell HO4.out 11).trans rfl
  have h12 : w4.cell? ⟨bc, 12, none⟩ = some (.int .i64 a12) := (blk_cell HO4.out 12).trans rfl
  clear hb
  refine ⟨_, rfl, ?_⟩
  refine hK.out _ _ ⟨h0, h1, h2, h3, h4, h5, h6, h7, h8, h9, h10, h11, h12⟩ (fun hHeld => ?_)
  clear hK K
  refine norm_ (a' := ?_) ?_ ?_
  rotate_left
  · show Act.put _ (some 22) _ = _
    simp only [Act.put, List.setIfInBounds_toArray, List.set_cons_zero, List.set_cons_succ, i64_w, i32_w]
    rfl
  refine pure_ (i := 10) (N := some 8) (v := ?_) (a' := ?_) #[true, true, true, true, true, true, true, true, true, true, true, false] rfl rfl (by kernel_rfl) (fun _ _ _ h => h) (Or.inl ⟨by rfl, ?_⟩) ?_ ?_
  rotate_left
  · intro w'
    go_simp
    with_reducible rfl
  rotate_left
  · simp only [Act.put, List.setIfInBounds_toArray, List.set_cons_zero, List.set_cons_succ, i64_w, i32_w]
    rfl
  refine pure_ (i := 11) (N := some 9) (v := ?_) (a' := ?_) #[true, true, true, true, true, true, true, true, true, true, true, true] rfl rfl (by kernel_rfl) (fun _ _ _ h => h) (Or.inl ⟨by rfl, ?_⟩) ?_ ?_
  rotate_left
  · intro w'
    go_simp
    with_reducible rfl
  rotate_left
  · simp only [Act.put, List.setIfInBounds_toArray, List.set_cons_zero, List.set_cons_succ, i64_w, i32_w]
    rfl
  refine done_ (by kernel_rfl) ?_
  clear d0 d1 d2 d3 d4 d5 d6 d7 d8 d9 d10 d11 d12 f0 f1 f2 f3 f4 f5 f6 f7 f8 f9 f10 f11 f12 h0 h1 h2 h3 h4 h5 h6 h7 h8 h9 h10 h11 h12
  have l2 : w4.cell? ⟨bl, 2, none⟩ = some (.int .i64 0) := (blk_cell HL4.out 2).trans rfl
  have l3 : w4.cell? ⟨bl, 3, none⟩ = some (.int .i64 0) := (blk_cell HL4.out 3).trans rfl
  have l4 : w4.cell? ⟨bl, 4, none⟩ = some (.int .i64 0) := (blk_cell HL4.out 4).trans rfl
  have l5 : w4.cell? ⟨bl, 5, none⟩ = some (.int .i64 0) := (blk_cell HL4.out 5).trans rfl
  have k2 := blk_frozen HL4.out 2
  have k3 := blk_frozen HL4.out 3
  have k4 := blk_frozen HL4.out 4
  have k5 := blk_frozen HL4.out 5
  go_upto_region 5 with fail
  have HL5 : Aside0 (((((w4.setCell ⟨bl, 2, none⟩ (.int .i64 x)).setCell ⟨bl, 3, none⟩ (.int .i64 (x + 1))).setCell ⟨bl, 4, none⟩ (.int .i64 y)).setCell ⟨bl, 5, none⟩ (.int .i64 (y + 1))).heap[bl]? = some (.cells #[.int .i64 a, .int .i64 b, .int .i64 x, .int .i64 (x + 1), .int .i64 y, .int .i64 (y + 1)] 37)) := ⟨by
    have h := blk_set (blk_set (blk_set (blk_set HL4.out 2 (.int .i64 x)) 3 (.int .i64 (x + 1))) 4 (.int .i64 y)) 5 (.int .i64 (y + 1))
    simpa using h⟩
  have HK5 : Aside0 (∀ k, k ≠ bl → ((((w4.setCell ⟨bl, 2, none⟩ (.int .i64 x)).setCell ⟨bl, 3, none⟩ (.int .i64 (x + 1))).setCell ⟨bl, 4, none⟩ (.int .i64 y)).setCell ⟨bl, 5, none⟩ (.int .i64 (y + 1))).heap[k]? = w4.heap[k]?) := ⟨fun k hk =>
    (Below.heap_setCell _ _ _ k hk).trans ((Below.heap_setCell _ _ _ k hk).trans ((Below.heap_setCell _ _ _ k hk).trans (Below.heap_setCell _ _ _ k hk)))⟩
  have HB5 : Aside0 (Below w.heap.size w ((((w4.setCell ⟨bl, 2, none⟩ (.int .i64 x)).setCell ⟨bl, 3, none⟩ (.int .i64 (x + 1))).setCell ⟨bl, 4, none⟩ (.int .i64 y)).setCell ⟨bl, 5, none⟩ (.int .i64 (y + 1)))) := ⟨(((HB4.out.setCell HNE.out.2.1 _).setCell HNE.out.2.1 _).setCell HNE.out.2.1 _).setCell HNE.out.2.1 _⟩
  clear l2 l3 l4 l5 k2 k3 k4 k5
  generalize (((w4.setCell ⟨bl, 2, none⟩ (.int .i64 x)).setCell ⟨bl, 3, none⟩ (.int .i64 (x + 1))).setCell ⟨bl, 4, none⟩ (.int .i64 y)).setCell ⟨bl, 5, none⟩ (.int .i64 (y + 1)) = w5 at *
  have HZ5 := Aside0.mk ((HK5.out bz HNE.out.1).trans HZ4.out)
  have HO5 := Aside0.mk ((HK5.out bc (Ne.symm HNE.out.2.2.2.1)).trans HO4.out)
  have HP5 := Aside0.mk ((HP.out.keep (HB4.out.block g HG.out.1)).keep (HK5.out g (Ne.symm HNE.out.2.2.2.2.2.1)))
  clear HZ4 HO4 HL4 HB4 HK5
  -- the first part
  have HBe : Aside0 (Below w.heap.size w w5.drew) := ⟨below_drew HB5.out⟩
  have HOe : Aside0 (w5.drew.heap[bc]? = some (.cells #[.slice (some ⟨g, 0, none⟩) P.length cP, .slice A1 L.length c1, .int .i64 a2, .int .i64 a3, .int .i64 a4, .int .i64 a5, .int .i64 a6, .int .i64 a7, .int .i64 a8, .int .i64 a9, .int .i64 a10, .int .i64 a11, .int .i64 a12] 25)) := ⟨HO5.out⟩
  have HLe : Aside0 (w5.drew.heap[bl]? = some (.cells #[.int .i64 a, .int .i64 b, .int .i64 x, .int .i64 (x + 1), .int .i64 y, .int .i64 (y + 1)] 37)) := ⟨HL5.out⟩
  have HZe : Aside0 (w5.drew.heap[bz]? = some (.cells #[.int .i64 0, .int .i64 0, .int .i64 0, .int .i64 0, .int .i64 0, .int .i64 0] 37)) := ⟨HZ5.out⟩
  have HPe : Aside0 (PB w5.drew g cP P) := ⟨HP5.out⟩
  have ya : w5.drew.cell? ⟨bc, 0, none⟩ = some (.slice (some ⟨g, 0, none⟩) P.length cP) := (blk_cell HOe.out 0).trans rfl
  have yb := HPe.out.cell a HA.out.1.1 HA.out.1.2
  obtain ⟨yb, yf⟩ := yb
  clear HZ5 HO5 HL5 HP5 HB5
  have Hm' := Hm.out
  obtain ⟨na, hna⟩ : ∃ na, (rd_T60 P a).f0 = na := ⟨_, rfl⟩
  rw [hna] at yb Hm'
  have p0_ := eq_true HA.out.1.1
  have p1_ := eq_true HA.out.1.2
  refine start_ (n := 19) (S := fun w' => w'.cell? ⟨bc, 0, none⟩ = some (.slice (some ⟨g, 0, none⟩) P.length cP) ∧ w'.cell? ⟨g, a.toNat * 2, none⟩ = some (.int .i64 na)) (ds := [18]) #[false, false, false, false, false, false, false, false, false, false, false, false, false, false, false, false, false, false, false] (by kernel_rfl) rfl rfl ⟨ya, yb⟩ (fun hHeld => ?_)
  generalize w5.drew = we at *
  refine pure_ (i := 0) (N := some 33) (v := ?_) (a' := ?_) #[true, false, false, false, false, false, false, false, false, false, false, false, false, false, false, false, false, false, false] rfl rfl (by kernel_rfl) (fun _ _ _ h => h) (Or.inl ⟨by rfl, ?_⟩) ?_ ?_
  rotate_left
  · intro w'
    go_simp
    with_reducible rfl
  rotate_left
  · simp only [Act.put, List.setIfInBounds_toArray, List.set_cons_zero, List.set_cons_succ, i64_w, i32_w]
    rfl
  refine pure_ (i := 1) (N := some 34) (v := ?_) (a' := ?_) #[true, true, false, false, false, false, false, false, false, false, false, false, false, false, false, false, false, false, false] rfl rfl (by kernel_rfl) (fun _ _ _ h => h) (Or.inl ⟨by rfl, ?_⟩) ?_ ?_
  rotate_left
  · intro w'
    go_simp
    with_reducible rfl
  rotate_left
  · simp only [Act.put, List.setIfInBounds_toArray, List.set_cons_zero, List.set_cons_succ, i64_w, i32_w]
    rfl
  refine pure_ (i := 2) (N := some 35) (v := ?_) (a' := ?_) #[true, true, true, false, false, false, false, false, false, false, false, false, false, false, false, false, false, false, false] rfl rfl (by kernel_rfl) (fun _ _ _ h => h) (Or.inl ⟨by rfl, ?_⟩) ?_ ?_
  rotate_left
  · intro w'
    go_simp
    with_reducible rfl
  rotate_left
  · simp only [Act.put, List.setIfInBounds_toArray, List.set_cons_zero, List.set_cons_succ, i64_w, i32_w]
    rfl
  refine pure_ (i := 4) (N := some 37) (v := ?_) (a' := ?_) #[true, true, true, false, true, false, false, false, false, false, false, false, false, false, false, false, false, false, false] rfl rfl (by kernel_rfl) (fun _ _ _ h => h) (Or.inl ⟨by rfl, ?_⟩) ?_ ?_
  rotate_left
  · intro w'
    go_simp
    with_reducible rfl
  rotate_left
  · simp only [Act.put, List.setIfInBounds_toArray, List.set_cons_zero, List.set_cons_succ, i64_w, i32_w]
    rfl
  refine pure_ (i := 5) (N := some 38) (v := ?_) (a' := ?_) #[true, true, true, false, true, true, false, false, false, false, false, false, false, false, false, false, false, false, false] rfl rfl (by kernel_rfl) (fun _ _ _ h => h) (Or.inl ⟨by rfl, ?_⟩) ?_ ?_
  rotate_left
  · intro w'
    go_simp
    with_reducible rfl
  rotate_left
  · simp only [Act.put, List.setIfInBounds_toArray, List.set_cons_zero, List.set_cons_succ, i64_w, i32_w]
    rfl
  refine pure_ (i := 6) (N := some 39) (v := ?_) (a' := ?_) #[true, true, true, false, true, true, true, false, false, false, false, false, false, false, false, false, false, false, false] rfl rfl (by kernel_rfl) (fun _ _ _ h => h) (Or.inl ⟨by rfl, ?_⟩) ?_ ?_
  rotate_left
  · intro w'
    go_simp
    with_reducible rfl
  rotate_left
  · simp only [Act.put, List.setIfInBounds_toArray, List.set_cons_zero, List.set_cons_succ, i64_w, i32_w]
    rfl
  refine pure_ (i := 7) (N := some 40) (v := ?_) (a' := ?_) #[true, true, true, false, true, true, true, true, false, false, false, false, false, false, false, false, false, false, false] rfl rfl (by kernel_rfl) (fun _ _ _ h => h) (Or.inl ⟨by rfl, ?_⟩) ?_ ?_
  rotate_left
  · intro w'
    go_simp
    with_reducible rfl
  rotate_left
  · simp only [Act.put, List.setIfInBounds_toArray, List.set_cons_zero, List.set_cons_succ, i64_w, i32_w]
    rfl
  refine pure_ (i := 9) (N := some 42) (v := ?_) (a' := ?_) #[true, true, true, false, true, true, true, true, false, true, false, false, false, false, false, false, false, false, false] rfl rfl (by kernel_rfl) (fun _ _ _ h => h) (Or.inl ⟨by rfl, ?_⟩) ?_ ?_
  rotate_left
  · intro w'
    go_simp
    with_reducible rfl
  rotate_left
  · simp only [Act.put, List.setIfInBounds_toArray, List.set_cons_zero, List.set_cons_succ, i64_w, i32_w]
    rfl
  refine pure_ (i := 13) (N := some 46) (v := ?_) (a' := ?_) #[true, true, true, false, true, true, true, true, false, true, false, false, false, true, false, false, false, false, false] rfl rfl (by kernel_rfl) (fun _ _ _ h => h) (Or.inl ⟨by rfl, ?_⟩) ?_ ?_
  rotate_left
  · intro w'
    go_simp
    with_reducible rfl
  rotate_left
  · simp only [Act.put, List.setIfInBounds_toArray, List.set_cons_zero, List.set_cons_succ, i64_w, i32_w]
    rfl
  refine pure_ (i := 14) (N := some 47) (v := ?_) (a' := ?_) #[true, true, true, false, true, true, true, true, false, true, false, false, false, true, true, false, false, false, false] rfl rfl (by kernel_rfl) (fun _ _ _ h => h) (Or.inl ⟨by rfl, ?_⟩) ?_ ?_
  rotate_left
  · intro w'
    go_simp
    with_reducible rfl
  rotate_left
  · simp only [Act.put, List.setIfInBounds_toArray, List.set_cons_zero, List.set_cons_succ, i64_w, i32_w]
    rfl
  refine take_ (i := 3) (N := some 36) (v := ?_) (a' := ?_) #[true, true, true, true, true, true, true, true, false, true, false, false, false, true, true, false, false, false, false] rfl rfl (by kernel_rfl) (fun _ _ _ h => h) (Or.inl ⟨by rfl, ?_⟩) hHeld ?_ ?_
  rotate_left
  · rintro w' ⟨s0, s1⟩
    go_simp
    with_reducible rfl
  rotate_left
  · simp only [Act.put, List.setIfInBounds_toArray, List.set_cons_zero, List.set_cons_succ, i64_w, i32_w]
    rfl
  refine take_ (i := 8) (N := some 41) (v := ?_) (a' := ?_) #[true, true, true, true, true, true, true, true, true, true, false, false, false, true, true, false, false, false, false] rfl rfl (by kernel_rfl) (fun _ _ _ h => h) (Or.inl ⟨by rfl, ?_⟩) hHeld ?_ ?_
  rotate_left
  · rintro w' ⟨s0, s1⟩
    go_simp
    with_reducible rfl
  rotate_left
  · simp only [Act.put, List.setIfInBounds_toArray, List.set_cons_zero, List.set_cons_succ, i64_w, i32_w]
    rfl
  refine pure_ (i := 10) (N := some 43) (v := ?_) (a' := ?_) #[true, true, true, true, true, true, true, true, true, true, true, false, false, true, true, false, false, false, false] rfl rfl (by kernel_rfl) (fun _ _ _ h => h) (Or.inl ⟨by rfl, ?_⟩) ?_ ?_
  rotate_left
  · intro w'
    go_simp
    with_reducible rfl
  rotate_left
  · simp only [Act.put, List.setIfInBounds_toArray, List.set_cons_zero, List.set_cons_succ, i64_w, i32_w]
    rfl
  refine pure_ (i := 11) (N := some 44) (v := ?_) (a' := ?_) #[true, true, true, true, true, true, true, true, true, true, true, true, false, true, true, false, false, false, false] rfl rfl (by kernel_rfl) (fun _ _ _ h => h) (Or.inl ⟨by rfl, ?_⟩) ?_ ?_
  rotate_left
  · intro w'
    go_simp
    with_reducible rfl
  rotate_left
  · simp only [Act.put, List.setIfInBounds_toArray, List.set_cons_zero, List.set_cons_succ, i64_w, i32_w]
    rfl
  refine take_ (i := 12) (N := some 45) (v := ?_) (a' := ?_) #[true, true, true, true, true, true, true, true, true, true, true, true, true, true, true, false, false, false, false] rfl rfl (by kernel_rfl) (fun _ _ _ h => h) (Or.inl ⟨by rfl, ?_⟩) hHeld ?_ ?_
  rotate_left
  · rintro w' ⟨s0, s1⟩
    go_simp
    with_reducible rfl
  rotate_left
  · simp only [Act.put, List.setIfInBounds_toArray, List.set_cons_zero, List.set_cons_succ, i64_w, i32_w]
    rfl
  refine pure_ (i := 15) (N := some 48) (v := ?_) (a' := ?_) #[true, true, true, true, true, true, true, true, true, true, true, true, true, true, true, true, false, false, false] rfl rfl (by kernel_rfl) (fun _ _ _ h => h) (Or.inl ⟨by rfl, ?_⟩) ?_ ?_
  rotate_left
  · intro w'
    go_simp
    with_reducible rfl
  rotate_left
  · simp only [Act.put, List.setIfInBounds_toArray, List.set_cons_zero, List.set_cons_succ, i64_w, i32_w]
    rfl
  refine pure_ (i := 16) (N := some 49) (v := ?_) (a' := ?_) #[true, true, true, true, true, true, true, true, true, true, true, true, true, true, true, true, true, false, false] rfl rfl (by kernel_rfl) (fun _ _ _ h => h) (Or.inl ⟨by rfl, ?_⟩) ?_ ?_
  rotate_left
  · intro w'
    go_simp
    with_reducible rfl
  rotate_left
  · simp only [Act.put, List.setIfInBounds_toArray, List.set_cons_zero, List.set_cons_succ, i64_w, i32_w]
    rfl
  refine pure_ (i := 17) (N := some 50) (v := ?_) (a' := ?_) #[true, true, true, true, true, true, true, true, true, true, true, true, true, true, true, true, true, true, false] rfl rfl (by kernel_rfl) (fun _ _ _ h => h) (Or.inl ⟨by rfl, ?_⟩) ?_ ?_
  rotate_left
  · intro w'
    go_simp
    with_reducible rfl
  rotate_left
  · simp only [Act.put, List.setIfInBounds_toArray, List.set_cons_zero, List.set_cons_succ, i64_w, i32_w]
    rfl
  refine last_ (i := 18) (N := none) #[true, true, true, true, true, true, true, true, true, true, true, true, true, true, true, true, true, true, true] rfl rfl (by kernel_rfl) (by decide) (fun K hK => ?_)
  refine skip_ (w1 := ?_) (by rfl) rfl ?_ ?_
  rotate_left
  · go_simp
    rfl
  refine hK.out _ _ ?_
  clear hK K
  refine done_ (by kernel_rfl) ?_
  have HP6 := Aside0.mk (HPe.out.put a HA.out.1.1 HA.out.1.2 m)
  have HL6 := Aside0.mk ((Below.heap_setCell we ⟨g, a.toNat * 2, none⟩ (.int .i64 m) bl HNE.out.2.2.2.2.2.1).trans HLe.out)
  have HZ6 := Aside0.mk ((Below.heap_setCell we ⟨g, a.toNat * 2, none⟩ (.int .i64 m) bz HNE.out.2.2.2.2.2.2).trans HZe.out)
  have HO6 := Aside0.mk ((Below.heap_setCell we ⟨g, a.toNat * 2, none⟩ (.int .i64 m) bc (Ne.symm HG.out.2.2)).trans HOe.out)
  have HF6 : Aside0 (∀ k, k < w.heap.size → k ≠ g → (we.setCell ⟨g, a.toNat * 2, none⟩ (.int .i64 m)).heap[k]? = w.heap[k]?) := ⟨fun k hk hg => (Below.heap_setCell we ⟨g, a.toNat * 2, none⟩ (.int .i64 m) k hg).trans (HBe.out.block k hk)⟩
  have HBw : Aside0 (B ≤ w.heap.size) := ⟨by have := HBB.out; have := HG.out; omega⟩
  have HB6 : Aside0 (Below B w (we.setCell ⟨g, a.toNat * 2, none⟩ (.int .i64 m))) := ⟨(HBe.out.mono HBw.out).setCell HBB.out.2 _⟩
  clear ya yb yf HPe HLe HZe HOe HBe p0_ p1_ Hm'
  generalize we.setCell ⟨g, a.toNat * 2, none⟩ (.int .i64 m) = w6 at *
  have hlen1 : (P.set a.toNat ⟨m, (rd_T60 P a).f1⟩).length = P.length := List.length_set
  obtain ⟨P1, hP1⟩ : ∃ P1, P.set a.toNat ⟨m, (rd_T60 P a).f1⟩ = P1 := ⟨_, rfl⟩
  rw [hP1] at HP6 Hn hlen1
  have HP1 := Aside0.mk hP1
  have Hlen := Aside0.mk hlen1
  clear hlen1 hP1 hna
  -- the other part
  have HF : Aside0 (∀ k, k < w.heap.size → k ≠ g → w6.drew.heap[k]? = w.heap[k]?) := ⟨HF6.out⟩
  have HBf : Aside0 (Below B w w6.drew) := ⟨below_drew HB6.out⟩
  have HOf : Aside0 (w6.drew.heap[bc]? = some (.cells #[.slice (some ⟨g, 0, none⟩) P.length cP, .slice A1 L.length c1, .int .i64 a2, .int .i64 a3, .int .i64 a4, .int .i64 a5, .int .i64 a6, .int .i64 a7, .int .i64 a8, .int .i64 a9, .int .i64 a10, .int .i64 a11, .int .i64 a12] 25)) := ⟨HO6.out⟩
  have HLf : Aside0 (w6.drew.heap[bl]? = some (.cells #[.int .i64 a, .int .i64 b, .int .i64 x, .int .i64 (x + 1), .int .i64 y, .int .i64 (y + 1)] 37)) := ⟨HL6.out⟩
  have HZf : Aside0 (w6.drew.heap[bz]? = some (.cells #[.int .i64 0, .int .i64 0, .int .i64 0, .int .i64 0, .int .i64 0, .int .i64 0] 37)) := ⟨HZ6.out⟩
  have HPf : Aside0 (PB w6.drew g cP P1) := ⟨HP6.out⟩
  have ya : w6.drew.cell? ⟨bc, 0, none⟩ = some (.slice (some ⟨g, 0, none⟩) P.length cP) := (blk_cell HOf.out 0).trans rfl
  have yb := HPf.out.cell b HA.out.2.1 (by rw [Hlen.out]; exact HA.out.2.2)
  obtain ⟨yb, yf⟩ := yb
  clear HZ6 HO6 HL6 HP6 HB6 HF6
  have Hn' := Hn.out
  obtain ⟨nb, hnb⟩ : ∃ nb, (rd_T60 P1 b).f0 = nb := ⟨_, rfl⟩
  rw [hnb] at yb Hn'
  have p0_ := eq_true HA.out.2.1
  have p1_ := eq_true HA.out.2.2
  go_upto_region 6 with fail
  refine start_ (n := 19) (S := fun w' => w'.cell? ⟨bc, 0, none⟩ = some (.slice (some ⟨g, 0, none⟩) P.length cP) ∧ w'.cell? ⟨g, b.toNat * 2, none⟩ = some (.int .i64 nb)) (ds := [18]) #[false, false, false, false, false, false, false, false, false, false, false, false, false, false, false, false, false, false, false] (by kernel_rfl) rfl rfl ⟨ya, yb⟩ (fun hHeld => ?_)
  generalize w6.drew = wf at *
  refine pure_ (i := 0) (N := some 51) (v := ?_) (a' := ?_) #[true, false, false, false, false, false, false, false, false, false, false, false, false, false, false, false, false, false, false] rfl rfl (by kernel_rfl) (fun _ _ _ h => h) (Or.inl ⟨by rfl, ?_⟩) ?_ ?_
  rotate_left
  · intro w'
    go_simp
    with_reducible rfl
  rotate_left
  · simp only [Act.put, List.setIfInBounds_toArray, List.set_cons_zero, List.set_cons_succ, i64_w, i32_w]
    rfl
  refine pure_ (i := 1) (N := some 52) (v := ?_) (a' := ?_) #[true, true, false, false, false, false, false, false, false, false, false, false, false, false, false, false, false, false, false] rfl rfl (by kernel_rfl) (fun _ _ _ h => h) (Or.inl ⟨by rfl, ?_⟩) ?_ ?_
  rotate_left
  · intro w'
    go_simp
    with_reducible rfl
  rotate_left
  · simp only [Act.put, List.setIfInBounds_toArray, List.set_cons_zero, List.set_cons_succ, i64_w, i32_w]
    rfl
  refine pure_ (i := 2) (N := some 53) (v := ?_) (a' := ?_) #[true, true, true, false, false, false, false, false, false, false, false, false, false, false, false, false, false, false, false] rfl rfl (by kernel_rfl) (fun _ _ _ h => h) (Or.inl ⟨by rfl, ?_⟩) ?_ ?_
  rotate_left
  · intro w'
    go_simp
    with_reducible rfl
  rotate_left
  · simp only [Act.put, List.setIfInBounds_toArray, List.set_cons_zero, List.set_cons_succ, i64_w, i32_w]
    rfl
  refine pure_ (i := 4) (N := some 55) (v := ?_) (a' := ?_) #[true, true, true, false, true, false, false, false, false, false, false, false, false, false, false, false, false, false, false] rfl rfl (by kernel_rfl) (fun _ _ _ h => h) (Or.inl ⟨by rfl, ?_⟩) ?_ ?_
  rotate_left
  · intro w'
    go_simp
    with_reducible rfl
  rotate_left
  · simp only [Act.put, List.setIfInBounds_toArray, List.set_cons_zero, List.set_cons_succ, i64_w, i32_w]
    rfl
  refine pure_ (i := 5) (N := some 56) (v := ?_) (a' := ?_) #[true, true, true, false, true, true, false, false, false, false, false, false, false, false, false, false, false, false, false] rfl rfl (by kernel_rfl) (fun _ _ _ h => h) (Or.inl ⟨by rfl, ?_⟩) ?_ ?_
  rotate_left
  · intro w'
    go_simp
    with_reducible rfl
  rotate_left
  · simp only [Act.put, List.setIfInBounds_toArray, List.set_cons_zero, List.set_cons_succ, i64_w, i32_w]
    rfl
  refine pure_ (i := 6) (N := some 57) (v := ?_) (a' := ?_) #[true, true, true, false, true, true, true, false, false, false, false, false, false, false, false, false, false, false, false] rfl rfl (by kernel_rfl) (fun _ _ _ h => h) (Or.inl ⟨by rfl, ?_⟩) ?_ ?_
  rotate_left
  · intro w'
    go_simp
    with_reducible rfl
  rotate_left
  · simp only [Act.put, List.setIfInBounds_toArray, List.set_cons_zero, List.set_cons_succ, i64_w, i32_w]
    rfl
  refine pure_ (i := 7) (N := some 58) (v := ?_) (a' := ?_) #[true, true, true, false, true, true, true, true, false, false, false, false, false, false, false, false, false, false, false] rfl rfl (by kernel_rfl) (fun _ _ _ h => h) (Or.inl ⟨by rfl, ?_⟩) ?_ ?_
  rotate_left
  · intro w'
    go_simp
    with_reducible rfl
  rotate_left
  · simp only [Act.put, List.setIfInBounds_toArray, List.set_cons_zero, List.set_cons_succ, i64_w, i32_w]
    rfl
  refine pure_ (i := 9) (N := some 60) (v := ?_) (a' := ?_) #[true, true, true, false, true, true, true, true, false, true, false, false, false, false, false, false, false, false, false] rfl rfl (by kernel_rfl) (fun _ _ _ h => h) (Or.inl ⟨by rfl, ?_⟩) ?_ ?_
  rotate_left
  · intro w'
    go_simp
    with_reducible rfl
  rotate_left
  · simp only [Act.put, List.setIfInBounds_toArray, List.set_cons_zero, List.set_cons_succ, i64_w, i32_w]
    rfl
  refine pure_ (i := 13) (N := some 64) (v := ?_) (a' := ?_) #[true, true, true, false, true, true, true, true, false, true, false, false, false, true, false, false, false, false, false] rfl rfl (by kernel_rfl) (fun _ _ _ h => h) (Or.inl ⟨by rfl, ?_⟩) ?_ ?_
  rotate_left
  · intro w'
    go_simp
    with_reducible rfl
  rotate_left
  · simp only [Act.put, List.setIfInBounds_toArray, List.set_cons_zero, List.set_cons_succ, i64_w, i32_w]
    rfl
  refine pure_ (i := 14) (N := some 65) (v := ?_) (a' := ?_) #[true, true, true, false, true, true, true, true, false, true, false, false, false, true, true, false, false, false, false] rfl rfl (by kernel_rfl) (fun _ _ _ h => h) (Or.inl ⟨by rfl, ?_⟩) ?_ ?_
  rotate_left
  · intro w'
    go_simp
    with_reducible rfl
  rotate_left
  · simp only [Act.put, List.setIfInBounds_toArray, List.set_cons_zero, List.set_cons_succ, i64_w, i32_w]
    rfl
  refine take_ (i := 3) (N := some 54) (v := ?_) (a' := ?_) #[true, true, true, true, true, true, true, true, false, true, false, false, false, true, true, false, false, false, false] rfl rfl (by kernel_rfl) (fun _ _ _ h => h) (Or.inl ⟨by rfl, ?_⟩) hHeld ?_ ?_
  rotate_left
  · rintro w' ⟨s0, s1⟩
    go_simp
    with_reducible rfl
  rotate_left
  · simp only [Act.put, List.setIfInBounds_toArray, List.set_cons_zero, List.set_cons_succ, i64_w, i32_w]
    rfl
  refine take_ (i := 8) (N := some 59) (v := ?_) (a' := ?_) #[true, true, true, true, true, true, true, true, true, true, false, false, false, true, true, false, false, false, false] rfl rfl (by kernel_rfl) (fun _ _ _ h => h) (Or.inl ⟨by rfl, ?_⟩) hHeld ?_ ?_
  rotate_left
  · rintro w' ⟨s0, s1⟩
    go_simp
    with_reducible rfl
  rotate_left
  · simp only [Act.put, List.setIfInBounds_toArray, List.set_cons_zero, List.set_cons_succ, i64_w, i32_w]
    rfl
  refine pure_ (i := 10) (N := some 61) (v := ?_) (a' := ?_) #[true, true, true, true, true, true, true, true, true, true, true, false, false, true, true, false, false, false, false] rfl rfl (by kernel_rfl) (fun _ _ _ h => h) (Or.inl ⟨by rfl, ?_⟩) ?_ ?_
  rotate_left
  · intro w'
    go_simp
    with_reducible rfl
  rotate_left
  · simp only [Act.put, List.setIfInBounds_toArray, List.set_cons_zero, List.set_cons_succ, i64_w, i32_w]
    rfl
  refine pure_ (i := 11) (N := some 62) (v := ?_) (a' := ?_) #[true, true, true, true, true, true, true, true, true, true, true, true, false, true, true, false, false, false, false] rfl rfl (by kernel_rfl) (fun _ _ _ h => h) (Or.inl ⟨by rfl, ?_⟩) ?_ ?_
  rotate_left
  · intro w'
    go_simp
    with_reducible rfl
  rotate_left
  · simp only [Act.put, List.setIfInBounds_toArray, List.set_cons_zero, List.set_cons_succ, i64_w, i32_w]
    rfl
  refine take_ (i := 12) (N := some 63) (v := ?_) (a' := ?_) #[true, true, true, true, true, true, true, true, true, true, true, true, true, true, true, false, false, false, false] rfl rfl (by kernel_rfl) (fun _ _ _ h => h) (Or.inl ⟨by rfl, ?_⟩) hHeld ?_ ?_
  rotate_left
  · rintro w' ⟨s0, s1⟩
    go_simp
    with_reducible rfl
  rotate_left
  · simp only [Act.put, List.setIfInBounds_toArray, List.set_cons_zero, List.set_cons_succ, i64_w, i32_w]
    rfl
  refine pure_ (i := 15) (N := some 66) (v := ?_) (a' := ?_) #[true, true, true, true, true, true, true, true, true, true, true, true, true, true, true, true, false, false, false] rfl rfl (by kernel_rfl) (fun _ _ _ h => h) (Or.inl ⟨by rfl, ?_⟩) ?_ ?_
  rotate_left
  · intro w'
    go_simp
    with_reducible rfl
  rotate_left
  · simp only [Act.put, List.setIfInBounds_toArray, List.set_cons_zero, List.set_cons_succ, i64_w, i32_w]
    rfl
  refine pure_ (i := 16) (N := some 67) (v := ?_) (a' := ?_) #[true, true, true, true, true, true, true, true, true, true, true, true, true, true, true, true, true, false, false] rfl rfl (by kernel_rfl) (fun _ _ _ h => h) (Or.inl ⟨by rfl, ?_⟩) ?_ ?_
  rotate_left
  · intro w'
    go_simp
    with_reducible rfl
  rotate_left
  · simp only [Act.put, List.setIfInBounds_toArray, List.set_cons_zero, List.set_cons_succ, i64_w, i32_w]
    rfl
  refine pure_ (i := 17) (N := some 68) (v := ?_) (a' := ?_) #[true, true, true, true, true, true, true, true, true, true, true, true, true, true, true, true, true, true, false] rfl rfl (by kernel_rfl) (fun _ _ _ h => h) (Or.inl ⟨by rfl, ?_⟩) ?_ ?_
  rotate_left
  · intro w'
    go_simp
    with_reducible rfl
  rotate_left
  · simp only [Act.put, List.setIfInBounds_toArray, List.set_cons_zero, List.set_cons_succ, i64_w, i32_w]
    rfl
  refine last_ (i := 18) (N := none) #[true, true, true, true, true, true, true, true, true, true, true, true, true, true, true, true, true, true, true] rfl rfl (by kernel_rfl) (by decide) (fun K hK => ?_)
  refine skip_ (w1 := ?_) (by rfl) rfl ?_ ?_
  rotate_left
  · go_simp
    rfl
  refine hK.out _ _ ?_
  clear hK K
  refine done_ (by kernel_rfl) ?_
  have HP7 := Aside0.mk (HPf.out.put b HA.out.2.1 (by rw [Hlen.out]; exact HA.out.2.2) n)
  have HL7 := Aside0.mk ((Below.heap_setCell wf ⟨g, b.toNat * 2, none⟩ (.int .i64 n) bl HNE.out.2.2.2.2.2.1).trans HLf.out)
  have HZ7 := Aside0.mk ((Below.heap_setCell wf ⟨g, b.toNat * 2, none⟩ (.int .i64 n) bz HNE.out.2.2.2.2.2.2).trans HZf.out)
  have HO7 := Aside0.mk ((Below.heap_setCell wf ⟨g, b.toNat * 2, none⟩ (.int .i64 n) bc (Ne.symm HG.out.2.2)).trans HOf.out)
  have HF7 : Aside0 (∀ k, k < w.heap.size → k ≠ g → (wf.setCell ⟨g, b.toNat * 2, none⟩ (.int .i64 n)).heap[k]? = w.heap[k]?) := ⟨fun k hk hg => (Below.heap_setCell wf ⟨g, b.toNat * 2, none⟩ (.int .i64 n) k hg).trans (HF.out k hk hg)⟩
  have HB7 : Aside0 (Below B w (wf.setCell ⟨g, b.toNat * 2, none⟩ (.int .i64 n))) := ⟨HBf.out.setCell HBB.out.2 _⟩
  clear ya yb yf HPf HLf HZf HOf HBf HF p0_ p1_ Hn' hnb
  generalize wf.setCell ⟨g, b.toNat * 2, none⟩ (.int .i64 n) = w7 at *
  have l0 : w7.cell? ⟨bl, 0, none⟩ = some (.int .i64 a) := (blk_cell HL7.out 0).trans rfl
  have l1 : w7.cell? ⟨bl, 1, none⟩ = some (.int .i64 b) := (blk_cell HL7.out 1).trans rfl
  have l2 : w7.cell? ⟨bl, 2, none⟩ = some (.int .i64 x) := (blk_cell HL7.out 2).trans rfl
  have l3 : w7.cell? ⟨bl, 3, none⟩ = some (.int .i64 (x + 1)) := (blk_cell HL7.out 3).trans rfl
  have l4 : w7.cell? ⟨bl, 4, none⟩ = some (.int .i64 y) := (blk_cell HL7.out 4).trans rfl
  have l5 : w7.cell? ⟨bl, 5, none⟩ = some (.int .i64 (y + 1)) := (blk_cell HL7.out 5).trans rfl
  have z0 : w7.cell? ⟨bz, 0, none⟩ = some (.int .i64 0) := (blk_cell HZ7.out 0).trans rfl
  have zf0 := blk_frozen HZ7.out 0
  have z1 : w7.cell? ⟨bz, 1, none⟩ = some (.int .i64 0) := (blk_cell HZ7.out 1).trans rfl
  have zf1 := blk_frozen HZ7.out 1
  have z2 : w7.cell? ⟨bz, 2, none⟩ = some (.int .i64 0) := (blk_cell HZ7.out 2).trans rfl
  have zf2 := blk_frozen HZ7.out 2
  have z3 : w7.cell? ⟨bz, 3, none⟩ = some (.int .i64 0) := (blk_cell HZ7.out 3).trans rfl
  have zf3 := blk_frozen HZ7.out 3
  have z4 : w7.cell? ⟨bz, 4, none⟩ = some (.int .i64 0) := (blk_cell HZ7.out 4).trans rfl
  have zf4 := blk_frozen HZ7.out 4
  have z5 : w7.cell? ⟨bz, 5, none⟩ = some (.int .i64 0) := (blk_cell HZ7.out 5).trans rfl
  have zf5 := blk_frozen HZ7.out 5
  have hbz0 : bl ≠ bz := Ne.symm HNE.out.1
  go_wp2_with fail
  refine bodyPost_ret (results_cell_row rfl _ _ bz 37 #[.int .i64 a, .int .i64 b, .int .i64 x, .int .i64 (x + 1), .int .i64 y, .int .i64 (y + 1)] (0, 0) _ rfl (by
    have h := blk_set (blk_set (blk_set (blk_set (blk_set (blk_set HZ7.out 0 (.int .i64 a)) 1 (.int .i64 b)) 2 (.int .i64 x)) 3 (.int .i64 (x + 1))) 4 (.int .i64 y)) 5 (.int .i64 (y + 1))
    simpa using h) Tryd.underlying37 rfl (by kernel_rfl)) rfl ?_
  have HK : ∀ k, k ≠ bz → ((((((w7.setCell ⟨bz, 0, none⟩ (.int .i64 a)).setCell ⟨bz, 1, none⟩ (.int .i64 b)).setCell ⟨bz, 2, none⟩ (.int .i64 x)).setCell ⟨bz, 3, none⟩ (.int .i64 (x + 1))).setCell ⟨bz, 4, none⟩ (.int .i64 y)).setCell ⟨bz, 5, none⟩ (.int .i64 (y + 1))).heap[k]? = w7.heap[k]? := fun k hk =>
    (Below.heap_setCell _ _ _ k hk).trans ((Below.heap_setCell _ _ _ k hk).trans ((Below.heap_setCell _ _ _ k hk).trans ((Below.heap_setCell _ _ _ k hk).trans ((Below.heap_setCell _ _ _ k hk).trans (Below.heap_setCell _ _ _ k hk)))))
  have hBz : B ≤ bz := Nat.le_trans HBw.out HNE.out.2.2.1
  rw [HP1.out]
  refine ⟨rfl, (HK bc (Ne.symm HNE.out.2.2.2.2.1)).trans HO7.out, HP7.out.keep (HK g (Ne.symm HNE.out.2.2.2.2.2.2)), ?_, (((((HB7.out.setCell hBz _).setCell hBz _).setCell hBz _).setCell hBz _).setCell hBz _).setCell hBz _, fun k hlt hk => (HK k (by have := HNE.out; omega)).trans (HF7.out k hlt hk)⟩
  obtain ⟨curP, hcP, _⟩ := HP.out
  refine Kd.R_mono (Kd.R_step (Kd.R_types HL.out hcP (by decide)) (fun k hk hlt => ?_)) (fun _ _ => trivial)
  exact (HK k (by have := HNE.out; omega)).trans (HF7.out k hlt hk.2)
end Go.Proofs.YtkhlndhleiaokaaDoor.MHo
namespace Go.Proofs.YtkhlndhleiaokaaDoor.MHo
open Go.RowKit Go.Proofs.YtkhlndhleiaokaaDoorW.PrintWords Go.Proofs.YtkhlndhleiaokaaDoorW.PrintLast Go.Proofs.YtkhlndhleiaokaaDoorW.PrintMore
attribute [local go_sem] mp_u32s mp_u32m mp_u8s mp_u8m max2_int min2_int max_two min_two max_three min_three max_four min_four   -- for this text's walks alone
set_option linter.unusedVariables false
set_option linter.unusedSimpArgs false

/-! ### plan_end: function 92 -/
def plan_end.f (a0_0 : Int) (a0_1 : Int) (a0_2 : Int) (a0_3 : Int) (a0_4 : Int) (a0_5 : Int) (a1 : Int) : Option (Int × Int × Int) := if a1 = 0 then (some (a0_0, a0_2, a0_3)) else (some (a0_1, a0_4, a0_5))
set_option maxHeartbeats 8000000 in
set_option maxRecDepth 100000 in
theorem plan_end.calls (a0_0 : Int) (a0_1 : Int) (a0_2 : Int) (a0_3 : Int) (a0_4 : Int) (a0_5 : Int) (a1 : Int) (r1 : Int) (r2 : Int) (r3 : Int) (w : World) (h : plan_end.f a0_0 a0_1 a0_2 a0_3 a0_4 a0_5 a1 = some (r1, r2, r3)) :
  Calls Tryd.prog 92 #[.agg #[.int .i64 a0_0, .int .i64 a0_1, .int .i64 a0_2, .int .i64 a0_3, .int .i64 a0_4, .int .i64 a0_5], .int .i64 a1] w fun e w' => e = .returned (.tuple #[.int .i64 r1, .agg #[.int .i64 r2, .int .i64 r3]]) ∧ Below w.heap.size w w' := by
 have hu37 := Tryd.underlying37
 have hu35 := Tryd.underlying35
 have HB := Aside0.mk (Below.refl w.heap.size w)
 have H : (if a1 = 0 then (some (a0_0, a0_2, a0_3)) else (some (a0_1, a0_4, a0_5))) = some (r1, r2, r3) := h
 clear h
 by_cases c3 : a1 = 0
 ·rw [if_pos c3] at H
  have c3b0 : (a1 == 0) = true := beq_iff_eq.mpr c3
  have c3b1 : (a1 != 0) = false := bne_eq_false_iff_eq.mpr c3
  clear c3
  simp only [Option.some.injEq, Prod.mk.injEq] at H
  obtain ⟨rfl, rfl, rfl⟩ := H
  go_enter Tryd.func92, Tryd.ntmps92
  try go_wp2_with (first | ((with_reducible refine gate_dst (N := 2) rfl ?_); refine box_event ?hg (N := 2) ?hd (cs := #[.int .i64 a0_0, .int .i64 a0_1, .int .i64 a0_2, .int .i64 a0_3, .int .i64 a0_4, .int .i64 a0_5]) (t := 37) ?hr ?_; (case hd => rfl); (case hg => rfl); (case hr => first | (go_simp; done) | (go_simp; rfl)); intro gb122 hg w4 hbox hb; have n0_ := Aside0.mk (below_step (by repeat (first | (with_reducible first | exact HB.out | apply below_alloc | apply pw_below_drewN | apply below_drew1) | exact HB.out)) hb); have n1_ := Aside0.mk (hbox); have n2_ := Aside0.mk ((by rw [hg]; exact (below_size (by repeat (first | (with_reducible first | exact HB.out | apply below_alloc | apply pw_below_drewN | apply below_drew1) | exact HB.out))) : w.heap.size ≤ gb122)); have n3_ := Aside0.mk ((by rw [hg]; exact (below_size (by repeat (first | (with_reducible first | exact HB.out | apply below_alloc | apply pw_below_drewN | apply below_drew1) | exact HB.out))) : w.heap.size ≤ gb122)); clear HB; have HB := n0_; have BK122 := n1_; have GW122 := n2_; have GE122 := n3_; clear n0_ n1_ n2_ n3_; clear hb hbox hg) | ((with_reducible refine gate_dst (N := 5) rfl ?_); refine box_event ?hg (N := 5) ?hd (cs := #[.int .i64 0, .int .i64 0]) (t := 35) ?hr ?_; (case hd => rfl); (case hg => rfl); (case hr => first | (go_simp; done) | (go_simp; rfl)); intro gb123 hg w5 hbox hb; have n0_ := Aside0.mk (blk_below (g := gb122) (o := .cells #[.int .i64 a0_0, .int .i64 a0_1, .int .i64 a0_2, .int .i64 a0_3, .int .i64 a0_4, .int .i64 a0_5] 37 (0, 0)) (by (with_reducible repeat (first | refine blk_drewN ?_ _ | refine blk_drew ?_ | refine blk_alloc ?_ _)); exact BK122.out) hb); have n1_ := Aside0.mk (below_step (by repeat (first | (with_reducible first | exact HB.out | apply below_alloc | apply pw_below_drewN | apply below_drew1 | refine below_set ?_ GE122.out) | exact HB.out)) hb); have n2_ := Aside0.mk (hbox); have n3_ := Aside0.mk ((by rw [hg]; exact (below_size (by repeat (first | (with_reducible first | exact HB.out | apply below_alloc | apply pw_below_drewN | apply below_drew1 | refine below_set ?_ GE122.out) | exact HB.out))) : w.heap.size ≤ gb123)); have n4_ := Aside0.mk ((by rw [hg]; exact (below_size (by repeat (first | (with_reducible first | exact HB.out | apply below_alloc | apply pw_below_drewN | apply below_drew1 | refine below_set ?_ GE122.out) | exact HB.out))) : w.heap.size ≤ gb123)); have n5_ := Aside0.mk ((by rw [hg]; exact Nat.ne_of_lt (blk_lt (g := gb122) (o := .cells #[.int .i64 a0_0, .int .i64 a0_1, .int .i64 a0_2, .int .i64 a0_3, .int .i64 a0_4, .int .i64 a0_5] 37 (0, 0)) (by (with_reducible repeat (first | refine blk_drewN ?_ _ | refine blk_drew ?_ | refine blk_alloc ?_ _)); exact BK122.out)) : gb122 ≠ gb123)); have n6_ := Aside0.mk ((by rw [hg]; exact Nat.ne_of_gt (blk_lt (g := gb122) (o := .cells #[.int .i64 a0_0, .int .i64 a0_1, .int .i64 a0_2, .int .i64 a0_3, .int .i64 a0_4, .int .i64 a0_5] 37 (0, 0)) (by (with_reducible repeat (first | refine blk_drewN ?_ _ | refine blk_drew ?_ | refine blk_alloc ?_ _)); exact BK122.out)) : gb123 ≠ gb122)); clear BK122; clear HB; have BK122 := n0_; have HB := n1_; have BK123 := n2_; have GW123 := n3_; have GE123 := n4_; have NB122_123 := n5_; have NB123_122 := n6_; clear n0_ n1_ n2_ n3_ n4_ n5_ n6_; clear hb hbox hg))
  have n0_ := Aside0.mk (blk_drew BK122.out)
  have n1_ := Aside0.mk (blk_drew BK123.out)
  have n2_ := Aside0.mk (below_drew1 HB.out)
  clear BK122
  clear BK123
  clear HB
  have BK122 := n0_
  have BK123 := n1_
  have HB := n2_
  clear n0_ n1_ n2_
  refine start_ (n := 6) (S := fun w' => w'.cell? ⟨gb122, 0, none⟩ = some (.int .i64 a0_0) ∧ w'.cell? ⟨gb122, 1, none⟩ = some (.int .i64 a0_1) ∧ w'.cell? ⟨gb122, 2, none⟩ = some (.int .i64 a0_2) ∧ w'.cell? ⟨gb122, 3, none⟩ = some (.int .i64 a0_3) ∧ w'.cell? ⟨gb122, 4, none⟩ = some (.int .i64 a0_4) ∧ w'.cell? ⟨gb122, 5, none⟩ = some (.int .i64 a0_5)) (ds := []) #[false, false, false, false, false, false] (by kernel_rfl) rfl rfl ⟨(blk_cell BK122.out 0).trans rfl, (blk_cell BK122.out 1).trans rfl, (blk_cell BK122.out 2).trans rfl, (blk_cell BK122.out 3).trans rfl, (blk_cell BK122.out 4).trans rfl, (blk_cell BK122.out 5).trans rfl⟩ (fun hHeld => ?_)
  generalize w5.drew = w6 at BK122 BK123 HB hHeld ⊢
  refine pure_ (i := 0) (N := some 8) (v := ?_) (a' := ?_) #[true, false, false, false, false, false] rfl rfl (by kernel_rfl) (fun _ _ _ h => h) (Or.inl ⟨by rfl, ?_⟩) ?_ ?_
  rotate_left
  ·intro w'
   go_simp
   with_reducible rfl
  rotate_left
  ·simp only [Act.put, List.setIfInBounds_toArray, List.set_cons_zero, List.set_cons_succ, i64_w, i32_w]
   rfl
  refine pure_ (i := 2) (N := some 10) (v := ?_) (a' := ?_) #[true, false, true, false, false, false] rfl rfl (by kernel_rfl) (fun _ _ _ h => h) (Or.inl ⟨by rfl, ?_⟩) ?_ ?_
  rotate_left
  ·intro w'
   go_simp
   with_reducible rfl
  rotate_left
  ·simp only [Act.put, List.setIfInBounds_toArray, List.set_cons_zero, List.set_cons_succ, i64_w, i32_w]
   rfl
  refine take_ (i := 1) (N := some 9) (v := ?_) (a' := ?_) #[true, true, true, false, false, false] rfl rfl (by kernel_rfl) (fun _ _ _ h => h) (Or.inl ⟨by rfl, ?_⟩) hHeld ?_ ?_
  rotate_left
  ·rintro w' ⟨s0, s1, s2, s3, s4, s5⟩
   go_simp
   with_reducible rfl
  rotate_left
  ·simp only [Act.put, List.setIfInBounds_toArray, List.set_cons_zero, List.set_cons_succ, i64_w, i32_w]
   rfl
  refine pure_ (i := 4) (N := some 4) (v := ?_) (a' := ?_) #[true, true, true, false, true, false] rfl rfl (by kernel_rfl) (fun _ _ _ h => h) (Or.inl ⟨by rfl, ?_⟩) ?_ ?_
  rotate_left
  ·intro w'
   go_simp
   with_reducible rfl
  rotate_left
  ·simp only [Act.put, List.setIfInBounds_toArray, List.set_cons_zero, List.set_cons_succ, i64_w, i32_w]
   rfl
  refine take_ (i := 3) (N := some 11) (v := ?_) (a' := ?_) #[true, true, true, true, true, false] rfl rfl (by kernel_rfl) (fun _ _ _ h => h) (Or.inl ⟨by rfl, ?_⟩) hHeld ?_ ?_
  rotate_left
  ·rintro w' ⟨s0, s1, s2, s3, s4, s5⟩
   go_simp
   with_reducible rfl
  rotate_left
  ·simp only [Act.put, List.setIfInBounds_toArray, List.set_cons_zero, List.set_cons_succ, i64_w, i32_w]
   rfl
  refine one_ (i := 5) (N := none) #[true, true, true, true, true, true] rfl rfl (by kernel_rfl) (by decide) (fun K hK => ?_)
  have hs7 : w6.cell? ⟨gb123, 0, none⟩ = some (.int .i64 0) := (blk_cell BK123.out 0).trans rfl
  have hfs7 := blk_frozen BK123.out 0
  have hns7_0 := NB122_123.out
  have hms7_0 := NB123_122.out
  have hs8 : w6.cell? ⟨gb123, 1, none⟩ = some (.int .i64 0) := (blk_cell BK123.out 1).trans rfl
  have hfs8 := blk_frozen BK123.out 1
  have hns8_0 := NB122_123.out
  have hms8_0 := NB123_122.out
  refine skip_ (w1 := ?_) (by rfl) rfl ?_ ?_
  rotate_left
  ·go_simp
   rfl
  refine hK.out _ _ ⟨((cell_far (p := ⟨gb123, _, none⟩) NB122_123.out _).trans (((cell_far (p := ⟨gb123, _, none⟩) NB122_123.out _).trans (hHeld.1)))), ((cell_far (p := ⟨gb123, _, none⟩) NB122_123.out _).trans (((cell_far (p := ⟨gb123, _, none⟩) NB122_123.out _).trans (hHeld.2.1)))), ((cell_far (p := ⟨gb123, _, none⟩) NB122_123.out _).trans (((cell_far (p := ⟨gb123, _, none⟩) NB122_123.out _).trans (hHeld.2.2.1)))), ((cell_far (p := ⟨gb123, _, none⟩) NB122_123.out _).trans (((cell_far (p := ⟨gb123, _, none⟩) NB122_123.out _).trans (hHeld.2.2.2.1)))), ((cell_far (p := ⟨gb123, _, none⟩) NB122_123.out _).trans (((cell_far (p := ⟨gb123, _, none⟩) NB122_123.out _).trans (hHeld.2.2.2.2.1)))), ((cell_far (p := ⟨gb123, _, none⟩) NB122_123.out _).trans (((cell_far (p := ⟨gb123, _, none⟩) NB122_123.out _).trans (hHeld.2.2.2.2.2))))⟩ (fun hHeld => ?_)
  clear hK K
  refine done_ (by kernel_rfl) ?_
  try go_wp2
  refine bodyPost_ret (results_tc rfl _ _ gb123 35 #[.int .i64 a0_2, .int .i64 a0_3] (0, 0) _ rfl (by (with_reducible repeat (first | refine blk_drewN ?_ _ | refine blk_drew ?_ | refine blk_alloc ?_ _)); refine blk_put (cs := #[.int .i64 a0_2, .int .i64 0]) ?_ 1 _ rfl; (with_reducible repeat (first | refine blk_drewN ?_ _ | refine blk_drew ?_ | refine blk_alloc ?_ _)); refine blk_put (cs := #[.int .i64 0, .int .i64 0]) ?_ 0 _ rfl; (with_reducible repeat (first | refine blk_drewN ?_ _ | refine blk_drew ?_ | refine blk_alloc ?_ _)); exact BK123.out) Tryd.underlying35 rfl (by kernel_rfl)) rfl ?_
  exact ⟨by first | rfl | (simp [errW_none, errW_some] <;> rfl) | (simp [*, errW_none, errW_some] <;> rfl), by repeat (first | (with_reducible first | exact HB.out | apply below_alloc | apply pw_below_drewN | apply below_drew1 | refine below_set ?_ GE122.out | refine below_set ?_ GE123.out) | exact HB.out)⟩
 ·rw [if_neg c3] at H
  have c3b0 : (a1 == 0) = false := beq_eq_false_iff_ne.mpr c3
  have c3b1 : (a1 != 0) = true := bne_iff_ne.mpr c3
  simp only [Option.some.injEq, Prod.mk.injEq] at H
  obtain ⟨rfl, rfl, rfl⟩ := H
  go_enter Tryd.func92, Tryd.ntmps92
  try go_wp2_with (first | ((with_reducible refine gate_dst (N := 2) rfl ?_); refine box_event ?hg (N := 2) ?hd (cs := #[.int .i64 a0_0, .int .i64 a0_1, .int .i64 a0_2, .int .i64 a0_3, .int .i64 a0_4, .int .i64 a0_5]) (t := 37) ?hr ?_; (case hd => rfl); (case hg => rfl); (case hr => first | (go_simp; done) | (go_simp; rfl)); intro gb122 hg w9 hbox hb; have n0_ := Aside0.mk (below_step (by repeat (first | (with_reducible first | exact HB.out | apply below_alloc | apply pw_below_drewN | apply below_drew1) | exact HB.out)) hb); have n1_ := Aside0.mk (hbox); have n2_ := Aside0.mk ((by rw [hg]; exact (below_size (by repeat (first | (with_reducible first | exact HB.out | apply below_alloc | apply pw_below_drewN | apply below_drew1) | exact HB.out))) : w.heap.size ≤ gb122)); have n3_ := Aside0.mk ((by rw [hg]; exact (below_size (by repeat (first | (with_reducible first | exact HB.out | apply below_alloc | apply pw_below_drewN | apply below_drew1) | exact HB.out))) : w.heap.size ≤ gb122)); clear HB; have HB := n0_; have BK122 := n1_; have GW122 := n2_; have GE122 := n3_; clear n0_ n1_ n2_ n3_; clear hb hbox hg) | ((with_reducible refine gate_dst (N := 5) rfl ?_); refine box_event ?hg (N := 5) ?hd (cs := #[.int .i64 0, .int .i64 0]) (t := 35) ?hr ?_; (case hd => rfl); (case hg => rfl); (case hr => first | (go_simp; done) | (go_simp; rfl)); intro gb123 hg w10 hbox hb; have n0_ := Aside0.mk (blk_below (g := gb122) (o := .cells #[.int .i64 a0_0, .int .i64 a0_1, .int .i64 a0_2, .int .i64 a0_3, .int .i64 a0_4, .int .i64 a0_5] 37 (0, 0)) (by (with_reducible repeat (first | refine blk_drewN ?_ _ | refine blk_drew ?_ | refine blk_alloc ?_ _)); exact BK122.out) hb); have n1_ := Aside0.mk (below_step (by repeat (first | (with_reducible first | exact HB.out | apply below_alloc | apply pw_below_drewN | apply below_drew1 | refine below_set ?_ GE122.out) | exact HB.out)) hb); have n2_ := Aside0.mk (hbox); have n3_ := Aside0.mk ((by rw [hg]; exact (below_size (by repeat (first | (with_reducible first | exact HB.out | apply below_alloc | apply pw_below_drewN | apply below_drew1 | refine below_set ?_ GE122.out) | exact HB.out))) : w.heap.size ≤ gb123)); have n4_ := Aside0.mk ((by rw [hg]; exact (below_size (by repeat (first | (with_reducible first | exact HB.out | apply below_alloc | apply pw_below_drewN | apply below_drew1 | refine below_set ?_ GE122.out) | exact HB.out))) : w.heap.size ≤ gb123)); have n5_ := Aside0.mk ((by rw [hg]; exact Nat.ne_of_lt (blk_lt (g := gb122) (o := .cells #[.int .i64 a0_0, .int .i64 a0_1, .int .i64 a0_2, .int .i64 a0_3, .int .i64 a0_4, .int .i64 a0_5] 37 (0, 0)) (by (with_reducible repeat (first | refine blk_drewN ?_ _ | refine blk_drew ?_ | refine blk_alloc ?_ _)); exact BK122.out)) : gb122 ≠ gb123)); have n6_ := Aside0.mk ((by rw [hg]; exact Nat.ne_of_gt (blk_lt (g := gb122) (o := .cells #[.int .i64 a0_0, .int .i64 a0_1, .int .i64 a0_2, .int .i64 a0_3, .int .i64 a0_4, .int .i64 a0_5] 37 (0, 0)) (by (with_reducible repeat (first | refine blk_drewN ?_ _ | refine blk_drew ?_ | refine blk_alloc ?_ _)); exact BK122.out)) : gb123 ≠ gb122)); clear BK122; clear HB; have BK122 := n0_; have HB := n1_; have BK123 := n2_; have GW123 := n3_; have GE123 := n4_; have NB122_123 := n5_; have NB123_122 := n6_; clear n0_ n1_ n2_ n3_ n4_ n5_ n6_; clear hb hbox hg))
  have n0_ := Aside0.mk (blk_drew BK122.out)
  have n1_ := Aside0.mk (blk_drew BK123.out)
  have n2_ := Aside0.mk (below_drew1 HB.out)
  clear BK122
  clear BK123
  clear HB
  have BK122 := n0_
  have BK123 := n1_
  have HB := n2_
  clear n0_ n1_ n2_
  refine start_ (n := 6) (S := fun w' => w'.cell? ⟨gb122, 0, none⟩ = some (.int .i64 a0_0) ∧ w'.cell? ⟨gb122, 1, none⟩ = some (.int .i64 a0_1) ∧ w'.cell? ⟨gb122, 2, none⟩ = some (.int .i64 a0_2) ∧ w'.cell? ⟨gb122, 3, none⟩ = some (.int .i64 a0_3) ∧ w'.cell? ⟨gb122, 4, none⟩ = some (.int .i64 a0_4) ∧ w'.cell? ⟨gb122, 5, none⟩ = some (.int .i64 a0_5)) (ds := []) #[false, false, false, false, false, false] (by kernel_rfl) rfl rfl ⟨(blk_cell BK122.out 0).trans rfl, (blk_cell BK122.out 1).trans rfl, (blk_cell BK122.out 2).trans rfl, (blk_cell BK122.out 3).trans rfl, (blk_cell BK122.out 4).trans rfl, (blk_cell BK122.out 5).trans rfl⟩ (fun hHeld => ?_)
  generalize w10.drew = w11 at BK122 BK123 HB hHeld ⊢
  refine pure_ (i := 0) (N := some 12) (v := ?_) (a' := ?_) #[true, false, false, false, false, false] rfl rfl (by kernel_rfl) (fun _ _ _ h => h) (Or.inl ⟨by rfl, ?_⟩) ?_ ?_
  rotate_left
  ·intro w'
   go_simp
   with_reducible rfl
  rotate_left
  ·simp only [Act.put, List.setIfInBounds_toArray, List.set_cons_zero, List.set_cons_succ, i64_w, i32_w]
   rfl
  refine pure_ (i := 2) (N := some 14) (v := ?_) (a' := ?_) #[true, false, true, false, false, false] rfl rfl (by kernel_rfl) (fun _ _ _ h => h) (Or.inl ⟨by rfl, ?_⟩) ?_ ?_
  rotate_left
  ·intro w'
   go_simp
   with_reducible rfl
  rotate_left
  ·simp only [Act.put, List.setIfInBounds_toArray, List.set_cons_zero, List.set_cons_succ, i64_w, i32_w]
   rfl
  refine take_ (i := 1) (N := some 13) (v := ?_) (a' := ?_) #[true, true, true, false, false, false] rfl rfl (by kernel_rfl) (fun _ _ _ h => h) (Or.inl ⟨by rfl, ?_⟩) hHeld ?_ ?_
  rotate_left
  ·rintro w' ⟨s0, s1, s2, s3, s4, s5⟩
   go_simp
   with_reducible rfl
  rotate_left
  ·simp only [Act.put, List.setIfInBounds_toArray, List.set_cons_zero, List.set_cons_succ, i64_w, i32_w]
   rfl
  refine pure_ (i := 4) (N := some 4) (v := ?_) (a' := ?_) #[true, true, true, false, true, false] rfl rfl (by kernel_rfl) (fun _ _ _ h => h) (Or.inl ⟨by rfl, ?_⟩) ?_ ?_
  rotate_left
  ·intro w'
   go_simp
   with_reducible rfl
  rotate_left
  ·simp only [Act.put, List.setIfInBounds_toArray, List.set_cons_zero, List.set_cons_succ, i64_w, i32_w]
   rfl
  refine take_ (i := 3) (N := some 15) (v := ?_) (a' := ?_) #[true, true, true, true, true, false] rfl rfl (by kernel_rfl) (fun _ _ _ h => h) (Or.inl ⟨by rfl, ?_⟩) hHeld ?_ ?_
  rotate_left
  ·rintro w' ⟨s0, s1, s2, s3, s4, s5⟩
   go_simp
   with_reducible rfl
  rotate_left
  ·simp only [Act.put, List.setIfInBounds_toArray, List.set_cons_zero, List.set_cons_succ, i64_w, i32_w]
   rfl
  refine one_ (i := 5) (N := none) #[true, true, true, true, true, true] rfl rfl (by kernel_rfl) (by decide) (fun K hK => ?_)
  have hs12 : w11.cell? ⟨gb123, 0, none⟩ = some (.int .i64 0) := (blk_cell BK123.out 0).trans rfl
  have hfs12 := blk_frozen BK123.out 0
  have hns12_0 := NB122_123.out
  have hms12_0 := NB123_122.out
  have hs13 : w11.cell? ⟨gb123, 1, none⟩ = some (.int .i64 0) := (blk_cell BK123.out 1).trans rfl
  have hfs13 := blk_frozen BK123.out 1
  have hns13_0 := NB122_123.out
  have hms13_0 := NB123_122.out
  refine skip_ (w1 := ?_) (by rfl) rfl ?_ ?_
  rotate_left
  ·go_simp
   rfl
  refine hK.out _ _ ⟨((cell_far (p := ⟨gb123, _, none⟩) NB122_123.out _).trans (((cell_far (p := ⟨gb123, _, none⟩) NB122_123.out _).trans (hHeld.1)))), ((cell_far (p := ⟨gb123, _, none⟩) NB122_123.out _).trans (((cell_far (p := ⟨gb123, _, none⟩) NB122_123.out _).trans (hHeld.2.1)))), ((cell_far (p := ⟨gb123, _, none⟩) NB122_123.out _).trans (((cell_far (p := ⟨gb123, _, none⟩) NB122_123.out _).trans (hHeld.2.2.1)))), ((cell_far (p := ⟨gb123, _, none⟩) NB122_123.out _).trans (((cell_far (p := ⟨gb123, _, none⟩) NB122_123.out _).trans (hHeld.2.2.2.1)))), ((cell_far (p := ⟨gb123, _, none⟩) NB122_123.out _).trans (((cell_far (p := ⟨gb123, _, none⟩) NB122_123.out _).trans (hHeld.2.2.2.2.1)))), ((cell_far (p := ⟨gb123, _, none⟩) NB122_123.out _).trans (((cell_far (p := ⟨gb123, _, none⟩) NB122_123.out _).trans (hHeld.2.2.2.2.2))))⟩ (fun hHeld => ?_)
  clear hK K
  refine done_ (by kernel_rfl) ?_
  try go_wp2
  refine bodyPost_ret (results_tc rfl _ _ gb123 35 #[.int .i64 a0_4, .int .i64 a0_5] (0, 0) _ rfl (by (with_reducible repeat (first | refine blk_drewN ?_ _ | refine blk_drew ?_ | refine blk_alloc ?_ _)); refine blk_put (cs := #[.int .i64 a0_4, .int .i64 0]) ?_ 1 _ rfl; (with_reducible repeat (first | refine blk_drewN ?_ _ | refine blk_drew ?_ | refine blk_alloc ?_ _)); refine blk_put (cs := #[.int .i64 0, .int .i64 0]) ?_ 0 _ rfl; (with_reducible repeat (first | refine blk_drewN ?_ _ | refine blk_drew ?_ | refine blk_alloc ?_ _)); exact BK123.out) Tryd.underlying35 rfl (by kernel_rfl)) rfl ?_
  exact ⟨by first | rfl | (simp [errW_none, errW_some] <;> rfl) | (simp [*, errW_none, errW_some] <;> rfl), by repeat (first | (with_reducible first | exact HB.out | apply below_alloc | apply pw_below_drewN | apply below_drew1 | refine below_set ?_ GE122.out | refine below_set ?_ GE123.out) | exact HB.out)⟩


/-! ### plan_index: function 86 -/
def plan_index.f (a0 : Int) (a1 : Int) : Option (Bool) := if a0 ≥ 0 then (some (decide (a0 < a1))) else (some false)
set_option maxHeartbeats 8000000 in
set_option maxRecDepth 100000 in
theorem plan_index.calls (a0 : Int) (a1 : Int) (r : Bool) (w : World) (h : plan_index.f a0 a1 = some r) :
  Calls Tryd.prog 86 #[.int .i64 a0, .int .i64 a1] w fun e w' => e = .returned (.bool r) ∧ Drawn0 w w' := by
 have H : (if a0 ≥ 0 then (some (decide (a0 < a1))) else (some false)) = some r := h
 clear h
 by_cases c3 : a0 ≥ 0
 ·rw [if_pos c3] at H
  have c3b0 : decide (0 ≤ a0) = true := decide_eq_true c3
  clear c3
  obtain rfl := Option.some.inj H
  go_enter Tryd.func86, Tryd.ntmps86
  go_wp2
  go_ret
  exact ⟨by first | rfl | (simp; done) | (simp [*]; done), by repeat (first | exact Drawn0.refl _ | apply Drawn0.step)⟩
 ·rw [if_neg c3] at H
  have c3b0 : decide (0 ≤ a0) = false := decide_eq_false c3
  clear c3
  obtain rfl := Option.some.inj H
  go_enter Tryd.func86, Tryd.ntmps86
  go_wp2
  go_ret
  exact ⟨by first | rfl | (simp; done) | (simp [*]; done), by repeat (first | exact Drawn0.refl _ | apply Drawn0.step)⟩

end Go.Proofs.YtkhlndhleiaokaaDoor.MHo
set_option linter.unusedVariables false
set_option linter.unusedSimpArgs false
namespace Go.Proofs.YtkhlndhleiaokaaDoor.MHo
open Go.RowKit Go.Proofs.YtkhlndhleiaokaaDoorW.PrintWords Go.Proofs.YtkhlndhleiaokaaDoorW.PrintLast Go.Proofs.YtkhlndhleiaokaaDoorW.PrintMore
/-- A call of a function that has a body enters it. -/
theorem entersT {f : Nat} {fn : Func} {c : Code} (hf : Tryd.prog.funcs[f]? = some fn) (hn : (fn.name == "runtime.NumGoroutine") = false) (hb : fn.body = some c) (args : Array Value) (w : World) : (callFunc f args).run Tryd.prog w = .ok (.enter f args) w := by
  have hne : ¬ (fn.name = "runtime.NumGoroutine") := fun e => by rw [e] at hn; exact absurd hn (by decide)
  simp [callFunc, hf, hne, hb, mark]
/-- A link's cells as a value. -/
abbrev val37 (x : S37) : Value := .agg #[.int .i64 x.f0, .int .i64 x.f1, .int .i64 x.f2.f0, .int .i64 x.f2.f1, .int .i64 x.f3.f0, .int .i64 x.f3.f1]
/-- What is asked of a predicate on links that may lay blocks of its own. -/
def PredB (g : Nat) (lb : Array Value) (p : S37 → Bool) (w : World) : Prop :=
  ∀ (W : World) (x : S37), Below w.heap.size w W → Calls Tryd.prog g (#[val37 x] ++ lb) W fun e w' => e = .returned (.bool (p x)) ∧ Below W.heap.size W w'
/-- The first of which a predicate holds; -1. -/
def findI (p : S37 → Bool) (l : List S37) : Int := match l.findIdx? p with | some i => (i : Int) | none => -1
theorem findI_hit {p : S37 → Bool} {l : List S37} {i : Nat} (hi : i < l.length) (hp : p (rd_T37 l i) = true) (hb : ∀ j : Nat, j < i → p (rd_T37 l j) = false) : findI p l = i := by
  have : l.findIdx? p = some i := by
    rw [List.findIdx?_eq_some_iff_getElem]
    refine ⟨hi, by simpa [rd_T37, List.getD_eq_getElem?_getD, hi] using hp, fun j hj => ?_⟩
    have := hb j hj
    have hjl : j < l.length := by omega
    simpa [rd_T37, List.getD_eq_getElem?_getD, hjl] using this
  unfold findI
  rw [this]
theorem findI_miss {p : S37 → Bool} {l : List S37} (hb : ∀ j : Nat, j < l.length → p (rd_T37 l j) = false) : findI p l = -1 := by
  have : l.findIdx? p = none := by
    rw [List.findIdx?_eq_none_iff]
    intro x hx
    obtain ⟨j, hj, rfl⟩ := List.mem_iff_getElem.1 hx
    have := hb j hj
    simpa [rd_T37, List.getD_eq_getElem?_getD, hj] using this
  unfold findI
  rw [this]
theorem findI_any (p : S37 → Bool) (l : List S37) : decide (0 ≤ findI p l) = l.any p := by
  unfold findI
  cases h : l.findIdx? p with
  | none =>
    rw [List.findIdx?_eq_none_iff] at h
    simp only [show decide ((0 : Int) ≤ -1) = false by decide]
    symm
    rw [List.any_eq_false]
    intro x hx
    simp [h x hx]
  | some i =>
    rw [List.findIdx?_eq_some_iff_getElem] at h
    obtain ⟨hi, hp, _⟩ := h
    simp only [show decide ((0 : Int) ≤ (i : Int)) = true from decide_eq_true (by omega)]
    symm
    rw [List.any_eq_true]
    exact ⟨_, List.getElem_mem hi, hp⟩
set_option maxHeartbeats 1000000 in
set_option maxRecDepth 4000 in
theorem indexFunc (p : S37 → Bool) (g : Nat) (lb : Array Value) (eg : ∀ args w, (callFunc g args).run Tryd.prog w = .ok (.enter g args) w) (A0 : Option Addr) (c0 : Nat) (l : List S37) (w : World)
    (hr : Kd.C k37 w A0 l.length l) (hl : l.length ≤ 1000000) (hp : PredB g lb p w) :
    Calls Tryd.prog 51 #[.slice A0 l.length c0, .func (.func g) #[] lb] w fun e w' => e = .returned (.int .i64 (findI p l)) ∧ Below w.heap.size w w' := by
  have HR := Aside0.mk hr
  have HP := Aside0.mk hp
  clear hr hp
  go_enter Tryd.func51, Tryd.ntmps51
  go_wp2_with fail
  go_loopg [5, 8] (l.length + 1) (fun kq _ v8 w' => ∃ i : Int, v8 = .int .i64 i ∧ Aside0 (kq + i = l.length + 1 ∧ 0 ≤ i) ∧ Aside0 (Below w.heap.size w w') ∧ Aside0 (∀ j : Nat, (j : Int) < i → p (rd_T37 l j) = false))
  case atStart => exact ⟨0, rfl, ⟨by omega⟩, ⟨Below.refl _ _⟩, ⟨fun j hj => absurd hj (by omega)⟩⟩
  case round =>
    obtain ⟨i, rfl, HK, HB, HN⟩ := hrel
    by_cases hi : i < (l.length : Int)
    · have h0 := HK.out.2
      obtain ⟨ad, e, x0, x1, x2, x3, x4, x5⟩ := at_T37 (Kd.C_below HR.out HB.out) i h0 hi
      cases e
      have hcall := HP.out wr (rd_T37 l i) HB.out
      have hlt : decide (i < (l.length : Int)) = true := decide_eq_true hi
      have hpx : Aside0 (p (rd_T37 l i) = p (rd_T37 l i)) := ⟨rfl⟩
      have Hrd : Aside0 (∃ x, rd_T37 l i = x) := ⟨_, rfl⟩
      obtain ⟨x, hx⟩ := Hrd.out
      rw [hx] at x0 x1 x2 x3 x4 x5 hcall
      have HX := Aside0.mk hx
      clear Hrd hpx hx
      have p0 := eq_true h0
      have p1 := eq_true hi
      have hw1 : wrap64 (i + 1) = i + 1 := by unfold wrap64; omega
      cases gk with
      | zero => exact absurd HK.out (by omega)
      | succ k1 =>
      cases hq : p x with
      | true =>
        rw [hq] at hcall
        go_wp2_with fail
        refine hcall.mono ?_
        rintro e w' ⟨rfl, hb'⟩
        have HB' := Aside0.mk hb'
        clear hb'
        go_wp2_with fail
        go_ret
        refine ⟨?_, below_step HB.out HB'.out⟩
        have e1 : i = (i.toNat : Int) := by omega
        rw [findI_hit (i := i.toNat) (by omega) (by rw [← e1, HX.out]; exact hq) (fun j hj => HN.out j (by omega)), ← e1]
        rfl
      | false =>
        rw [hq] at hcall
        go_wp2_with fail
        refine hcall.mono ?_
        rintro e w' ⟨rfl, hb'⟩
        have HB' := Aside0.mk hb'
        clear hb'
        go_wp2_with fail
        go_roundg k1
        case measure => have := HK.out; omega
        case rel =>
          refine ⟨i + 1, rfl, ⟨by have := HK.out; omega⟩, ⟨below_step HB.out HB'.out⟩, ⟨fun j hj => ?_⟩⟩
          by_cases e : (j : Int) = i
          · rw [e, HX.out]; exact hq
          · exact HN.out j (by omega)
    · have hlt : decide (i < (l.length : Int)) = false := decide_eq_false hi
      go_wp2_with fail
      go_ret
      refine ⟨?_, HB.out⟩
      rw [findI_miss (fun j hj => HN.out j (by omega))]
      rfl
set_option maxHeartbeats 1000000 in
theorem containsFunc (p : S37 → Bool) (g : Nat) (lb : Array Value) (eg : ∀ args w, (callFunc g args).run Tryd.prog w = .ok (.enter g args) w) (A0 : Option Addr) (c0 : Nat) (l : List S37) (w : World)
    (hr : Kd.C k37 w A0 l.length l) (hl : l.length ≤ 1000000) (hp : PredB g lb p w) :
    Calls Tryd.prog 87 #[.slice A0 l.length c0, .func (.func g) #[] lb] w fun e w' => e = .returned (.bool (l.any p)) ∧ Below w.heap.size w w' := by
  have hi := indexFunc p g lb eg A0 c0 l w hr hl hp
  rw [← findI_any]
  generalize findI p l = r at hi ⊢
  clear hr hl hp eg
  go_enter Tryd.func87, Tryd.ntmps87
  go_wp2_with fail
  refine hi.mono ?_
  rintro e w1 ⟨rfl, hb⟩
  have HB := Aside0.mk hb
  clear hb
  go_wp2_with fail
  go_ret
  exact ⟨rfl, HB.out⟩
/-- Does a link take a part's node? -/
def takes (part node : Int) (x : S37) : Bool := (x.f0 == part && (x.f2.f0 == node || x.f2.f1 == node)) || (x.f1 == part && (x.f3.f0 == node || x.f3.f1 == node))
set_option maxHeartbeats 4000000 in
set_option maxRecDepth 4000 in
theorem takes_walk (part node : Int) (b1 b2 : Nat) (x : S37) (w : World) (h1 : w.cell? ⟨b1, 0, none⟩ = some (.int .i64 part)) (h2 : w.cell? ⟨b2, 0, none⟩ = some (.int .i64 node)) (l1 : b1 < w.heap.size) (l2 : b2 < w.heap.size) :
    Calls Tryd.prog 94 #[val37 x, .pointer (some ⟨b1, 0, none⟩), .pointer (some ⟨b2, 0, none⟩)] w fun e w' => e = .returned (.bool (takes part node x)) ∧ Below w.heap.size w w' := by
  obtain ⟨a, b, ⟨p0, p1⟩, ⟨q0, q1⟩⟩ := x
  obtain ⟨s0, hs0⟩ : ∃ s, s = (a == part && (p0 == node || p1 == node)) := ⟨_, rfl⟩
  obtain ⟨s1, hs1⟩ : ∃ s, s = (b == part && (q0 == node || q1 == node)) := ⟨_, rfl⟩
  have HT : takes part node ⟨a, b, ⟨p0, p1⟩, ⟨q0, q1⟩⟩ = (s0 || s1) := by rw [hs0, hs1]; rfl
  rw [HT]
  clear HT
  have HS0 := Aside0.mk hs0
  have HS1 := Aside0.mk hs1
  have H1 := Aside0.mk h1
  have H2 := Aside0.mk h2
  have L1 := Aside0.mk l1
  have L2 := Aside0.mk l2
  clear hs0 hs1 h1 h2 l1 l2
  go_enter Tryd.func94, Tryd.ntmps94
  go_wp2_with fail
  have HO : Aside0 ((w.alloc (.cells #[.int .i64 a, .int .i64 b, .int .i64 p0, .int .i64 p1, .int .i64 q0, .int .i64 q1] 37)).heap[w.heap.size]? = some (.cells #[.int .i64 a, .int .i64 b, .int .i64 p0, .int .i64 p1, .int .i64 q0, .int .i64 q1] 37)) := ⟨heap_alloc_new _ _⟩
  have HB := Aside0.mk (below_alloc (Below.refl w.heap.size w) (Obj.cells #[.int .i64 a, .int .i64 b, .int .i64 p0, .int .i64 p1, .int .i64 q0, .int .i64 q1] 37))
  generalize w.alloc (Obj.cells #[.int .i64 a, .int .i64 b, .int .i64 p0, .int .i64 p1, .int .i64 q0, .int .i64 q1] 37) = wa at *
  have HX : Aside0 (w.heap.size = w.heap.size) := ⟨rfl⟩
  obtain ⟨bx, hbx⟩ : ∃ bx, bx = w.heap.size := ⟨_, rfl⟩
  rw [← hbx]
  rw [← hbx] at HO
  have HBX := Aside0.mk hbx
  clear hbx HX
  go_loopg [5, 6, 7, 8] 3 (fun kq _ _ _ v8 w' => ∃ k : Nat, v8 = .int .i64 k ∧ Aside0 (kq + k = 3) ∧ Aside0 (k ≤ 2) ∧ Aside0 (Below w.heap.size w w') ∧ Aside0 (w'.heap[bx]? = some (.cells #[.int .i64 a, .int .i64 b, .int .i64 p0, .int .i64 p1, .int .i64 q0, .int .i64 q1] 37)) ∧ Aside0 ((1 ≤ k → s0 = false) ∧ (2 ≤ k → s1 = false)))
  case atStart => exact ⟨0, rfl, ⟨by omega⟩, ⟨by omega⟩, HB, HO, ⟨fun h => absurd h (by omega), fun h => absurd h (by omega)⟩⟩
  case round =>
    obtain ⟨k, rfl, HK, HK2, HB', HO', HF⟩ := hrel
    have x0 : wr.cell? ⟨bx, 0, none⟩ = some (.int .i64 a) := (blk_cell HO'.out 0).trans rfl
    have x1 : wr.cell? ⟨bx, 1, none⟩ = some (.int .i64 b) := (blk_cell HO'.out 1).trans rfl
    have x2 : wr.cell? ⟨bx, 2, none⟩ = some (.int .i64 p0) := (blk_cell HO'.out 2).trans rfl
    have x3 : wr.cell? ⟨bx, 3, none⟩ = some (.int .i64 p1) := (blk_cell HO'.out 3).trans rfl
    have x4 : wr.cell? ⟨bx, 4, none⟩ = some (.int .i64 q0) := (blk_cell HO'.out 4).trans rfl
    have x5 : wr.cell? ⟨bx, 5, none⟩ = some (.int .i64 q1) := (blk_cell HO'.out 5).trans rfl
    have y1 : wr.cell? ⟨b1, 0, none⟩ = some (.int .i64 part) := (HB'.out.cell (p := ⟨b1, 0, none⟩) L1.out).trans H1.out
    have y2 : wr.cell? ⟨b2, 0, none⟩ = some (.int .i64 node) := (HB'.out.cell (p := ⟨b2, 0, none⟩) L2.out).trans H2.out
    have HLx := Aside0.mk (blk_lt HO'.out)
    have HL1 := Aside0.mk (Nat.lt_of_lt_of_le L1.out HB'.out.size)
    have HL2 := Aside0.mk (Nat.lt_of_lt_of_le L2.out HB'.out.size)
    cases gk with
    | zero => exact absurd HK.out (by have := HK2.out; omega)
    | succ k1 =>
    rcases (show k = 0 ∨ k = 1 ∨ k = 2 from by have := HK2.out; omega) with e | e | e
    · subst e
      cases ha : (a == part) with
      | false =>
        go_wp2_with fail
        refine (plan_end.calls a b p0 p1 q0 q1 0 a p0 p1 _ rfl).mono ?_
        rintro e w1 ⟨rfl, hb⟩
        have z1 : w1.cell? ⟨b1, 0, none⟩ = some (.int .i64 part) := (hb.cell (p := ⟨b1, 0, none⟩) HL1.out).trans y1
        have z2 : w1.cell? ⟨b2, 0, none⟩ = some (.int .i64 node) := (hb.cell (p := ⟨b2, 0, none⟩) HL2.out).trans y2
        have zO := Aside0.mk ((hb.block bx HLx.out).trans HO'.out)
        have HB1 := Aside0.mk (below_step HB'.out hb)
        have hn1 : w1.heap.size ≠ b1 := by have := HL1.out; have := hb.size; omega
        have hn2 : w1.heap.size ≠ b2 := by have := HL2.out; have := hb.size; omega
        have hm1 : b1 ≠ w1.heap.size := Ne.symm hn1
        have hm2 : b2 ≠ w1.heap.size := Ne.symm hn2
        have LL1 : b1 < w1.heap.size := by have := HL1.out; have := hb.size; omega
        have LL2 : b2 < w1.heap.size := by have := HL2.out; have := hb.size; omega
        have LLx := Aside0.mk (show bx < w1.heap.size by have := HLx.out; have := hb.size; omega)
        clear hb x0 x1 x2 x3 x4 x5 y1 y2
        go_wp2_with fail
        go_roundg k1
        case measure => have := HK.out; omega
        case rel => exact ⟨1, rfl, ⟨by have := HK.out; omega⟩, ⟨by omega⟩, ⟨by repeat (first | exact HB1.out | apply below_alloc | refine Below.setCell ?_ HB1.out.size _)⟩, ⟨((below_alloc (Below.refl w1.heap.size w1) _).block bx LLx.out).trans zO.out⟩, ⟨fun _ => by rw [HS0.out, ha]; rfl, fun h => absurd h (by omega)⟩⟩
      | true =>
        cases hp0 : (p0 == node) with
        | true =>
          go_wp2_with fail
          refine (plan_end.calls a b p0 p1 q0 q1 0 a p0 p1 _ rfl).mono ?_
          rintro e w1 ⟨rfl, hb⟩
          have z1 : w1.cell? ⟨b1, 0, none⟩ = some (.int .i64 part) := (hb.cell (p := ⟨b1, 0, none⟩) HL1.out).trans y1
          have z2 : w1.cell? ⟨b2, 0, none⟩ = some (.int .i64 node) := (hb.cell (p := ⟨b2, 0, none⟩) HL2.out).trans y2
          have zO := Aside0.mk ((hb.block bx HLx.out).trans HO'.out)
          have HB1 := Aside0.mk (below_step HB'.out hb)
          have hn1 : w1.heap.size ≠ b1 := by have := HL1.out; have := hb.size; omega
          have hn2 : w1.heap.size ≠ b2 := by have := HL2.out; have := hb.size; omega
          have hm1 : b1 ≠ w1.heap.size := Ne.symm hn1
          have hm2 : b2 ≠ w1.heap.size := Ne.symm hn2
          have LL1 : b1 < w1.heap.size := by have := HL1.out; have := hb.size; omega
          have LL2 : b2 < w1.heap.size := by have := HL2.out; have := hb.size; omega
          have LLx := Aside0.mk (show bx < w1.heap.size by have := HLx.out; have := hb.size; omega)
          clear hb x0 x1 x2 x3 x4 x5 y1 y2
          go_wp2_with fail
          go_ret
          rw [show s0 = true by rw [HS0.out]; simp only [ha, hp0, Bool.true_or]; rfl]
          exact ⟨rfl, by repeat (first | exact HB1.out | apply below_alloc | refine Below.setCell ?_ HB1.out.size _)⟩
        | false =>
          cases hp1 : (p1 == node) with
          | true =>
            go_wp2_with fail
            refine (plan_end.calls a b p0 p1 q0 q1 0 a p0 p1 _ rfl).mono ?_
            rintro e w1 ⟨rfl, hb⟩
            have z1 : w1.cell? ⟨b1, 0, none⟩ = some (.int .i64 part) := (hb.cell (p := ⟨b1, 0, none⟩) HL1.out).trans y1
            have z2 : w1.cell? ⟨b2, 0, none⟩ = some (.int .i64 node) := (hb.cell (p := ⟨b2, 0, none⟩) HL2.out).trans y2
            have zO := Aside0.mk ((hb.block bx HLx.out).trans HO'.out)
            have HB1 := Aside0.mk (below_step HB'.out hb)
            have hn1 : w1.heap.size ≠ b1 := by have := HL1.out; have := hb.size; omega
            have hn2 : w1.heap.size ≠ b2 := by have := HL2.out; have := hb.size; omega
            have hm1 : b1 ≠ w1.heap.size := Ne.symm hn1
            have hm2 : b2 ≠ w1.heap.size := Ne.symm hn2
            have LL1 : b1 < w1.heap.size := by have := HL1.out; have := hb.size; omega
            have LL2 : b2 < w1.heap.size := by have := HL2.out; have := hb.size; omega
            have LLx := Aside0.mk (show bx < w1.heap.size by have := HLx.out; have := hb.size; omega)
            clear hb x0 x1 x2 x3 x4 x5 y1 y2
            go_wp2_with fail
            go_ret
            rw [show s0 = true by rw [HS0.out]; simp only [ha, hp0, hp1]; rfl]
            exact ⟨rfl, by repeat (first | exact HB1.out | apply below_alloc | refine Below.setCell ?_ HB1.out.size _)⟩
          | false =>
            go_wp2_with fail
            refine (plan_end.calls a b p0 p1 q0 q1 0 a p0 p1 _ rfl).mono ?_
            rintro e w1 ⟨rfl, hb⟩
            have z1 : w1.cell? ⟨b1, 0, none⟩ = some (.int .i64 part) := (hb.cell (p := ⟨b1, 0, none⟩) HL1.out).trans y1
            have z2 : w1.cell? ⟨b2, 0, none⟩ = some (.int .i64 node) := (hb.cell (p := ⟨b2, 0, none⟩) HL2.out).trans y2
            have zO := Aside0.mk ((hb.block bx HLx.out).trans HO'.out)
            have HB1 := Aside0.mk (below_step HB'.out hb)
            have hn1 : w1.heap.size ≠ b1 := by have := HL1.out; have := hb.size; omega
            have hn2 : w1.heap.size ≠ b2 := by have := HL2.out; have := hb.size; omega
            have hm1 : b1 ≠ w1.heap.size := Ne.symm hn1
            have hm2 : b2 ≠ w1.heap.size := Ne.symm hn2
            have LL1 : b1 < w1.heap.size := by have := HL1.out; have := hb.size; omega
            have LL2 : b2 < w1.heap.size := by have := HL2.out; have := hb.size; omega
            have LLx := Aside0.mk (show bx < w1.heap.size by have := HLx.out; have := hb.size; omega)
            clear hb x0 x1 x2 x3 x4 x5 y1 y2
            go_wp2_with fail
            go_roundg k1
            case measure => have := HK.out; omega
            case rel => exact ⟨1, rfl, ⟨by have := HK.out; omega⟩, ⟨by omega⟩, ⟨by repeat (first | exact HB1.out | apply below_alloc | refine Below.setCell ?_ HB1.out.size _)⟩, ⟨((below_alloc (Below.refl w1.heap.size w1) _).block bx LLx.out).trans zO.out⟩, ⟨fun _ => by rw [HS0.out]; simp only [ha, hp0, hp1]; rfl, fun h => absurd h (by omega)⟩⟩
    · subst e
      cases hb : (b == part) with
      | false =>
        go_wp2_with fail
        refine (plan_end.calls a b p0 p1 q0 q1 1 b q0 q1 _ rfl).mono ?_
        rintro e w1 ⟨rfl, hb⟩
        have z1 : w1.cell? ⟨b1, 0, none⟩ = some (.int .i64 part) := (hb.cell (p := ⟨b1, 0, none⟩) HL1.out).trans y1
        have z2 : w1.cell? ⟨b2, 0, none⟩ = some (.int .i64 node) := (hb.cell (p := ⟨b2, 0, none⟩) HL2.out).trans y2
        have zO := Aside0.mk ((hb.block bx HLx.out).trans HO'.out)
        have HB1 := Aside0.mk (below_step HB'.out hb)
        have hn1 : w1.heap.size ≠ b1 := by have := HL1.out; have := hb.size; omega
        have hn2 : w1.heap.size ≠ b2 := by have := HL2.out; have := hb.size; omega
        have hm1 : b1 ≠ w1.heap.size := Ne.symm hn1
        have hm2 : b2 ≠ w1.heap.size := Ne.symm hn2
        have LL1 : b1 < w1.heap.size := by have := HL1.out; have := hb.size; omega
        have LL2 : b2 < w1.heap.size := by have := HL2.out; have := hb.size; omega
        have LLx := Aside0.mk (show bx < w1.heap.size by have := HLx.out; have := hb.size; omega)
        clear hb x0 x1 x2 x3 x4 x5 y1 y2
        go_wp2_with fail
        go_roundg k1
        case measure => have := HK.out; omega
        case rel => exact ⟨2, rfl, ⟨by have := HK.out; omega⟩, ⟨by omega⟩, ⟨by repeat (first | exact HB1.out | apply below_alloc | refine Below.setCell ?_ HB1.out.size _)⟩, ⟨((below_alloc (Below.refl w1.heap.size w1) _).block bx LLx.out).trans zO.out⟩, ⟨fun _ => HF.out.1 (by omega), fun _ => by rw [HS1.out, hb]; rfl⟩⟩
      | true =>
        cases hq0 : (q0 == node) with
        | true =>
          go_wp2_with fail
          refine (plan_end.calls a b p0 p1 q0 q1 1 b q0 q1 _ rfl).mono ?_
          rintro e w1 ⟨rfl, hb⟩
          have z1 : w1.cell? ⟨b1, 0, none⟩ = some (.int .i64 part) := (hb.cell (p := ⟨b1, 0, none⟩) HL1.out).trans y1
          have z2 : w1.cell? ⟨b2, 0, none⟩ = some (.int .i64 node) := (hb.cell (p := ⟨b2, 0, none⟩) HL2.out).trans y2
          have zO := Aside0.mk ((hb.block bx HLx.out).trans HO'.out)
          have HB1 := Aside0.mk (below_step HB'.out hb)
          have hn1 : w1.heap.size ≠ b1 := by have := HL1.out; have := hb.size; omega
          have hn2 : w1.heap.size ≠ b2 := by have := HL2.out; have := hb.size; omega
          have hm1 : b1 ≠ w1.heap.size := Ne.symm hn1
          have hm2 : b2 ≠ w1.heap.size := Ne.symm hn2
          have LL1 : b1 < w1.heap.size := by have := HL1.out; have := hb.size; omega
          have LL2 : b2 < w1.heap.size := by have := HL2.out; have := hb.size; omega
          have LLx := Aside0.mk (show bx < w1.heap.size by have := HLx.out; have := hb.size; omega)
          clear hb x0 x1 x2 x3 x4 x5 y1 y2
          go_wp2_with fail
          go_ret
          rw [show s1 = true by rw [HS1.out]; simp only [hb, hq0, Bool.true_or]; rfl]
          exact ⟨by cases s0 <;> rfl, by repeat (first | exact HB1.out | apply below_alloc | refine Below.setCell ?_ HB1.out.size _)⟩
        | false =>
          cases hq1 : (q1 == node) with
          | true =>
            go_wp2_with fail
            refine (plan_end.calls a b p0 p1 q0 q1 1 b q0 q1 _ rfl).mono ?_
            rintro e w1 ⟨rfl, hb⟩
            have z1 : w1.cell? ⟨b1, 0, none⟩ = some (.int .i64 part) := (hb.cell (p := ⟨b1, 0, none⟩) HL1.out).trans y1
            have z2 : w1.cell? ⟨b2, 0, none⟩ = some (.int .i64 node) := (hb.cell (p := ⟨b2, 0, none⟩) HL2.out).trans y2
            have zO := Aside0.mk ((hb.block bx HLx.out).trans HO'.out)
            have HB1 := Aside0.mk (below_step HB'.out hb)
            have hn1 : w1.heap.size ≠ b1 := by have := HL1.out; have := hb.size; omega
            have hn2 : w1.heap.size ≠ b2 := by have := HL2.out; have := hb.size; omega
            have hm1 : b1 ≠ w1.heap.size := Ne.symm hn1
            have hm2 : b2 ≠ w1.heap.size := Ne.symm hn2
            have LL1 : b1 < w1.heap.size := by have := HL1.out; have := hb.size; omega
            have LL2 : b2 < w1.heap.size := by have := HL2.out; have := hb.size; omega
            have LLx := Aside0.mk (show bx < w1.heap.size by have := HLx.out; have := hb.size; omega)
            clear hb x0 x1 x2 x3 x4 x5 y1 y2
            go_wp2_with fail
            go_ret
            rw [show s1 = true by rw [HS1.out]; simp only [hb, hq0, hq1]; rfl]
            exact ⟨by cases s0 <;> rfl, by repeat (first | exact HB1.out | apply below_alloc | refine Below.setCell ?_ HB1.out.size _)⟩
          | false =>
            go_wp2_with fail
            refine (plan_end.calls a b p0 p1 q0 q1 1 b q0 q1 _ rfl).mono ?_
            rintro e w1 ⟨rfl, hb⟩
            have z1 : w1.cell? ⟨b1, 0, none⟩ = some (.int .i64 part) := (hb.cell (p := ⟨b1, 0, none⟩) HL1.out).trans y1
            have z2 : w1.cell? ⟨b2, 0, none⟩ = some (.int .i64 node) := (hb.cell (p := ⟨b2, 0, none⟩) HL2.out).trans y2
            have zO := Aside0.mk ((hb.block bx HLx.out).trans HO'.out)
            have HB1 := Aside0.mk (below_step HB'.out hb)
            have hn1 : w1.heap.size ≠ b1 := by have := HL1.out; have := hb.size; omega
            have hn2 : w1.heap.size ≠ b2 := by have := HL2.out; have := hb.size; omega
            have hm1 : b1 ≠ w1.heap.size := Ne.symm hn1
            have hm2 : b2 ≠ w1.heap.size := Ne.symm hn2
            have LL1 : b1 < w1.heap.size := by have := HL1.out; have := hb.size; omega
            have LL2 : b2 < w1.heap.size := by have := HL2.out; have := hb.size; omega
            have LLx := Aside0.mk (show bx < w1.heap.size by have := HLx.out; have := hb.size; omega)
            clear hb x0 x1 x2 x3 x4 x5 y1 y2
            go_wp2_with fail
            go_roundg k1
            case measure => have := HK.out; omega
            case rel => exact ⟨2, rfl, ⟨by have := HK.out; omega⟩, ⟨by omega⟩, ⟨by repeat (first | exact HB1.out | apply below_alloc | refine Below.setCell ?_ HB1.out.size _)⟩, ⟨((below_alloc (Below.refl w1.heap.size w1) _).block bx LLx.out).trans zO.out⟩, ⟨fun _ => HF.out.1 (by omega), fun _ => by rw [HS1.out]; simp only [hb, hq0, hq1]; rfl⟩⟩
    · subst e
      go_wp2_with fail
      go_ret
      rw [HF.out.1 (by omega), HF.out.2 (by omega)]
      exact ⟨rfl, HB'.out⟩
theorem makeFunc_run (fn : Fn) (first cap : Array Value) (w : World) : (Instr.makeFunc fn first cap).run Tryd.prog w = .ok (.func fn first cap) w := rfl
set_option maxHeartbeats 1000000 in
set_option maxRecDepth 4000 in
theorem taken_walk (A0 : Option Addr) (c0 : Nat) (l : List S37) (part node : Int) (w : World) (hr : Kd.C k37 w A0 l.length l) (hl : l.length ≤ 1000000) :
    Calls Tryd.prog 93 #[.slice A0 l.length c0, .int .i64 part, .int .i64 node] w fun e w' => e = .returned (.bool (l.any (takes part node))) ∧ Below w.heap.size w w' := by
  have hb0 := below_alloc (below_alloc (Below.refl w.heap.size w) (Obj.cells #[.int .i64 part] 3)) (Obj.cells #[.int .i64 node] 3)
  have e1 : ((w.alloc (Obj.cells #[.int .i64 part] 3)).alloc (Obj.cells #[.int .i64 node] 3)).cell? ⟨w.heap.size, 0, none⟩ = some (.int .i64 part) := by simp
  have e2 : ((w.alloc (Obj.cells #[.int .i64 part] 3)).alloc (Obj.cells #[.int .i64 node] 3)).cell? ⟨w.heap.size + 1, 0, none⟩ = some (.int .i64 node) := by simp
  have s2 : ((w.alloc (Obj.cells #[.int .i64 part] 3)).alloc (Obj.cells #[.int .i64 node] 3)).heap.size = w.heap.size + 1 + 1 := by simp
  have hcall := containsFunc (takes part node) 94 #[.pointer (some ⟨w.heap.size, 0, none⟩), .pointer (some ⟨w.heap.size + 1, 0, none⟩)] (entersT Tryd.func94 (by kernel_rfl) rfl) A0 c0 l _ (Kd.C_below hr hb0) hl (fun W x hW => by
    refine takes_walk part node w.heap.size (w.heap.size + 1) x W ((hW.cell (p := ⟨w.heap.size, 0, none⟩) (by rw [s2]; show w.heap.size < _; omega)).trans e1) ((hW.cell (p := ⟨w.heap.size + 1, 0, none⟩) (by rw [s2]; show w.heap.size + 1 < _; omega)).trans e2) ?_ ?_
    · have := hW.size; omega
    · have := hW.size; omega)
  generalize l.any (takes part node) = r at hcall ⊢
  have HB0 := Aside0.mk hb0
  clear hr hl e1 e2 s2 hb0
  go_enter Tryd.func93, Tryd.ntmps93
  go_wp2_with fail
  refine hcall.mono ?_
  rintro e w1 ⟨rfl, hb⟩
  have HB := Aside0.mk (below_step HB0.out hb)
  clear hb
  go_wp2_with fail
  go_ret
  exact ⟨rfl, HB.out⟩
end Go.Proofs.YtkhlndhleiaokaaDoor.MHo
set_option linter.unusedVariables false
set_option linter.unusedSimpArgs false
namespace Go.Proofs.YtkhlndhleiaokaaDoor.MHo
open Go.RowKit Go.Proofs.YtkhlndhleiaokaaDoorW.PrintWords Go.Proofs.YtkhlndhleiaokaaDoorW.PrintLast Go.Proofs.YtkhlndhleiaokaaDoorW.PrintMore
theorem idx_yes (a0 a1 : Int) (w : World) (h0 : 0 ≤ a0) (h1 : a0 < a1) : Calls Tryd.prog 86 #[.int .i64 a0, .int .i64 a1] w fun e w' => e = .returned (.bool true) ∧ Below w.heap.size w w' :=
  (plan_index.calls a0 a1 true w (by unfold plan_index.f; rw [if_pos h0, decide_eq_true h1])).mono fun e w' h => ⟨h.1, h.2.below⟩
/-- An end of a link that may be: its part is one, and its two ports are nodes that no link ahead takes. -/
structure SideOk (P : List S60) (T : List S37) (part : Int) (p : S35) : Prop where
  ne : (p.f0 == p.f1) = false
  part0 : 0 ≤ part
  part1 : part < P.length
  n0 : 0 ≤ p.f0
  n1 : p.f0 < (rd_T60 P part).f0
  m0 : 0 ≤ p.f1
  m1 : p.f1 < (rd_T60 P part).f0
  t0 : T.any (takes part p.f0) = false
  t1 : T.any (takes part p.f1) = false
theorem taken_no (A1 : Option Addr) (c1 : Nat) (L : List S37) (i part node : Int) (w : World) (hr : Kd.C k37 w A1 L.length L) (hl : L.length ≤ 1000) (h0 : 0 ≤ i) (h1 : i ≤ L.length) (ht : (L.take i.toNat).any (takes part node) = false) :
    Calls Tryd.prog 93 #[.slice A1 i.toNat c1, .int .i64 part, .int .i64 node] w fun e w' => e = .returned (.bool false) ∧ Below w.heap.size w w' := by
  have hlen : (L.take i.toNat).length = i.toNat := by rw [List.length_take]; omega
  have h := taken_walk A1 c1 (L.take i.toNat) part node w (by exact Kd.C_take hr (show i.toNat ≤ L.length by omega)) (by rw [hlen]; omega)
  rw [hlen, ht] at h
  exact h
set_option maxHeartbeats 8000000 in
set_option maxRecDepth 4000 in
theorem ports_yes (A0 : Option Addr) (c0 : Nat) (P : List S60) (A1 : Option Addr) (c1 : Nat) (L : List S37) (a2 a3 a4 a5 a6 a7 a8 a9 a10 a11 a12 : Int) (i : Int) (x : S37) (w : World) (hr0 : Kd.C k60 w A0 P.length P) (hc0 : P.length ≤ c0) (hr1 : Kd.C k37 w A1 L.length L) (hc1 : L.length ≤ c1) (hL : L.length ≤ 1000) (hi0 : 0 ≤ i) (hi1 : i < L.length) (hx : rd_T37 L i = x)
    (hs0 : SideOk P (L.take i.toNat) x.f0 x.f2) (hs1 : SideOk P (L.take i.toNat) x.f1 x.f3) :
    Calls Tryd.prog 89 #[.agg #[.slice A0 P.length c0, .slice A1 L.length c1, .int .i64 a2, .int .i64 a3, .int .i64 a4, .int .i64 a5, .int .i64 a6, .int .i64 a7, .int .i64 a8, .int .i64 a9, .int .i64 a10, .int .i64 a11, .int .i64 a12], .int .i64 i] w fun e w' => e = .returned (.bool true) ∧ Below w.heap.size w w' := by
  have HR0 := Aside0.mk hr0
  have HR1 := Aside0.mk hr1
  have HC0 := Aside0.mk hc0
  have HC1 := Aside0.mk hc1
  have HS0 := Aside0.mk hs0
  have HS1 := Aside0.mk hs1
  have HX := Aside0.mk hx
  have HL := Aside0.mk hL
  have hic : i ≤ (c1 : Int) := by omega
  clear hr0 hr1 hc0 hc1 hs0 hs1 hx hL
  obtain ⟨ad1, e1, _⟩ := at_T37 HR1.out i hi0 hi1
  obtain ⟨ad0, e0, _⟩ := at_T60 HR0.out x.f0 HS0.out.part0 HS0.out.part1
  subst e0
  subst e1
  obtain ⟨a, b, ⟨p0, p1⟩, ⟨q0, q1⟩⟩ := x
  have p0_ := eq_true hi0
  have p1_ := eq_true hi1
  go_enter Tryd.func89, Tryd.ntmps89
  go_wp2_with fail
  have HO : Aside0 ((w.alloc (.cells #[.slice (some ad0) P.length c0, .slice (some ad1) L.length c1, .int .i64 a2, .int .i64 a3, .int .i64 a4, .int .i64 a5, .int .i64 a6, .int .i64 a7, .int .i64 a8, .int .i64 a9, .int .i64 a10, .int .i64 a11, .int .i64 a12] 25)).heap[w.heap.size]? = some (.cells #[.slice (some ad0) P.length c0, .slice (some ad1) L.length c1, .int .i64 a2, .int .i64 a3, .int .i64 a4, .int .i64 a5, .int .i64 a6, .int .i64 a7, .int .i64 a8, .int .i64 a9, .int .i64 a10, .int .i64 a11, .int .i64 a12] 25)) := ⟨heap_alloc_new _ _⟩
  have HB := Aside0.mk (below_alloc (Below.refl w.heap.size w) (Obj.cells #[.slice (some ad0) P.length c0, .slice (some ad1) L.length c1, .int .i64 a2, .int .i64 a3, .int .i64 a4, .int .i64 a5, .int .i64 a6, .int .i64 a7, .int .i64 a8, .int .i64 a9, .int .i64 a10, .int .i64 a11, .int .i64 a12] 25))
  generalize w.alloc (Obj.cells #[.slice (some ad0) P.length c0, .slice (some ad1) L.length c1, .int .i64 a2, .int .i64 a3, .int .i64 a4, .int .i64 a5, .int .i64 a6, .int .i64 a7, .int .i64 a8, .int .i64 a9, .int .i64 a10, .int .i64 a11, .int .i64 a12] 25) = wa at *
  obtain ⟨bx, hbx⟩ : ∃ bx, bx = w.heap.size := ⟨_, rfl⟩
  rw [← hbx]
  rw [← hbx] at HO
  have HBX := Aside0.mk hbx
  clear hbx
  go_loopg [10] 3 (fun kq v10 w' => ∃ k : Nat, v10 = .int .i64 k ∧ Aside0 (kq + k = 3) ∧ Aside0 (k ≤ 2) ∧ Aside0 (Below w.heap.size w w') ∧ Aside0 (w'.heap[bx]? = some (.cells #[.slice (some ad0) P.length c0, .slice (some ad1) L.length c1, .int .i64 a2, .int .i64 a3, .int .i64 a4, .int .i64 a5, .int .i64 a6, .int .i64 a7, .int .i64 a8, .int .i64 a9, .int .i64 a10, .int .i64 a11, .int .i64 a12] 25)))
  case atStart => exact ⟨0, rfl, ⟨by omega⟩, ⟨by omega⟩, HB, HO⟩
  case round =>
    clear HO HB
    obtain ⟨k, rfl, HK, HK2, HB, HO⟩ := hrel
    cases gk with
    | zero => exact absurd HK.out (by have := HK2.out; omega)
    | succ k1 =>
    rcases (show k = 0 ∨ k = 1 ∨ k = 2 from by have := HK2.out; omega) with e | e | e
    · subst e
      have x0 : wr.cell? ⟨bx, 0, none⟩ = some (.slice (some ad0) P.length c0) := (blk_cell HO.out 0).trans rfl
      have x1 : wr.cell? ⟨bx, 1, none⟩ = some (.slice (some ad1) L.length c1) := (blk_cell HO.out 1).trans rfl
      have x2 : wr.cell? ⟨bx, 2, none⟩ = some (.int .i64 a2) := (blk_cell HO.out 2).trans rfl
      have x3 : wr.cell? ⟨bx, 3, none⟩ = some (.int .i64 a3) := (blk_cell HO.out 3).trans rfl
      have x4 : wr.cell? ⟨bx, 4, none⟩ = some (.int .i64 a4) := (blk_cell HO.out 4).trans rfl
      have x5 : wr.cell? ⟨bx, 5, none⟩ = some (.int .i64 a5) := (blk_cell HO.out 5).trans rfl
      have x6 : wr.cell? ⟨bx, 6, none⟩ = some (.int .i64 a6) := (blk_cell HO.out 6).trans rfl
      have x7 : wr.cell? ⟨bx, 7, none⟩ = some (.int .i64 a7) := (blk_cell HO.out 7).trans rfl
      have x8 : wr.cell? ⟨bx, 8, none⟩ = some (.int .i64 a8) := (blk_cell HO.out 8).trans rfl
      have x9 : wr.cell? ⟨bx, 9, none⟩ = some (.int .i64 a9) := (blk_cell HO.out 9).trans rfl
      have x10 : wr.cell? ⟨bx, 10, none⟩ = some (.int .i64 a10) := (blk_cell HO.out 10).trans rfl
      have x11 : wr.cell? ⟨bx, 11, none⟩ = some (.int .i64 a11) := (blk_cell HO.out 11).trans rfl
      have x12 : wr.cell? ⟨bx, 12, none⟩ = some (.int .i64 a12) := (blk_cell HO.out 12).trans rfl
      obtain ⟨ad', e1, y0, y1, y2, y3, y4, y5⟩ := at_T37 (Kd.C_below HR1.out HB.out) i hi0 hi1
      have e1' := Option.some.inj e1
      subst e1'
      clear e1
      rw [HX.out] at y0 y1 y2 y3 y4 y5
      dsimp only at y0 y1 y2 y3 y4 y5
      have hne := HS0.out.ne
      dsimp only at hne
      go_wp2_with fail
      refine (plan_end.calls a b p0 p1 q0 q1 0 a p0 p1 _ rfl).mono ?_
      rintro e w1 ⟨rfl, hb⟩
      clear x0 x1 x2 x3 x4 x5 x6 x7 x8 x9 x10 x11 x12 y0 y1 y2 y3 y4 y5
      have HB1 := Aside0.mk (below_step HB.out hb)
      have HO1 := Aside0.mk ((hb.block bx (blk_lt HO.out)).trans HO.out)
      clear hb
      have x0 : w1.cell? ⟨bx, 0, none⟩ = some (.slice (some ad0) P.length c0) := (blk_cell HO1.out 0).trans rfl
      have x1 : w1.cell? ⟨bx, 1, none⟩ = some (.slice (some ad1) L.length c1) := (blk_cell HO1.out 1).trans rfl
      have x2 : w1.cell? ⟨bx, 2, none⟩ = some (.int .i64 a2) := (blk_cell HO1.out 2).trans rfl
      have x3 : w1.cell? ⟨bx, 3, none⟩ = some (.int .i64 a3) := (blk_cell HO1.out 3).trans rfl
      have x4 : w1.cell? ⟨bx, 4, none⟩ = some (.int .i64 a4) := (blk_cell HO1.out 4).trans rfl
      have x5 : w1.cell? ⟨bx, 5, none⟩ = some (.int .i64 a5) := (blk_cell HO1.out 5).trans rfl
      have x6 : w1.cell? ⟨bx, 6, none⟩ = some (.int .i64 a6) := (blk_cell HO1.out 6).trans rfl
      have x7 : w1.cell? ⟨bx, 7, none⟩ = some (.int .i64 a7) := (blk_cell HO1.out 7).trans rfl
      have x8 : w1.cell? ⟨bx, 8, none⟩ = some (.int .i64 a8) := (blk_cell HO1.out 8).trans rfl
      have x9 : w1.cell? ⟨bx, 9, none⟩ = some (.int .i64 a9) := (blk_cell HO1.out 9).trans rfl
      have x10 : w1.cell? ⟨bx, 10, none⟩ = some (.int .i64 a10) := (blk_cell HO1.out 10).trans rfl
      have x11 : w1.cell? ⟨bx, 11, none⟩ = some (.int .i64 a11) := (blk_cell HO1.out 11).trans rfl
      have x12 : w1.cell? ⟨bx, 12, none⟩ = some (.int .i64 a12) := (blk_cell HO1.out 12).trans rfl
      go_wp2_with fail
      have HB2 := Aside0.mk (below_alloc HB1.out (Obj.cells #[.int .i64 p0, .int .i64 p1] 35))
      have HO2 := Aside0.mk (((below_alloc (Below.refl w1.heap.size w1) (Obj.cells #[.int .i64 p0, .int .i64 p1] 35)).block bx (blk_lt HO1.out)).trans HO1.out)
      clear x0 x1 x2 x3 x4 x5 x6 x7 x8 x9 x10 x11 x12
      generalize w1.alloc (Obj.cells #[.int .i64 p0, .int .i64 p1] 35) = w2 at *
      have hq0 := HS0.out.part0
      have hq1 := HS0.out.part1
      have hq0_ := eq_true hq0
      have hq1_ := eq_true hq1
      have ix0 : ∀ w : World, (Instr.index 35 (.agg #[.int .i64 p0, .int .i64 p1]) (.int .i64 0)).run Tryd.prog w = .ok (.int .i64 p0) w := fun _ => by kernel_rfl
      have ix1 : ∀ w : World, (Instr.index 35 (.agg #[.int .i64 p0, .int .i64 p1]) (.int .i64 1)).run Tryd.prog w = .ok (.int .i64 p1) w := fun _ => by kernel_rfl
      refine wp_loop_rounds 3 ?_
      rw [rounds_succ]
      have x0 : w2.cell? ⟨bx, 0, none⟩ = some (.slice (some ad0) P.length c0) := (blk_cell HO2.out 0).trans rfl
      have x1 : w2.cell? ⟨bx, 1, none⟩ = some (.slice (some ad1) L.length c1) := (blk_cell HO2.out 1).trans rfl
      have x2 : w2.cell? ⟨bx, 2, none⟩ = some (.int .i64 a2) := (blk_cell HO2.out 2).trans rfl
      have x3 : w2.cell? ⟨bx, 3, none⟩ = some (.int .i64 a3) := (blk_cell HO2.out 3).trans rfl
      have x4 : w2.cell? ⟨bx, 4, none⟩ = some (.int .i64 a4) := (blk_cell HO2.out 4).trans rfl
      have x5 : w2.cell? ⟨bx, 5, none⟩ = some (.int .i64 a5) := (blk_cell HO2.out 5).trans rfl
      have x6 : w2.cell? ⟨bx, 6, none⟩ = some (.int .i64 a6) := (blk_cell HO2.out 6).trans rfl
      have x7 : w2.cell? ⟨bx, 7, none⟩ = some (.int .i64 a7) := (blk_cell HO2.out 7).trans rfl
      have x8 : w2.cell? ⟨bx, 8, none⟩ = some (.int .i64 a8) := (blk_cell HO2.out 8).trans rfl
      have x9 : w2.cell? ⟨bx, 9, none⟩ = some (.int .i64 a9) := (blk_cell HO2.out 9).trans rfl
      have x10 : w2.cell? ⟨bx, 10, none⟩ = some (.int .i64 a10) := (blk_cell HO2.out 10).trans rfl
      have x11 : w2.cell? ⟨bx, 11, none⟩ = some (.int .i64 a11) := (blk_cell HO2.out 11).trans rfl
      have x12 : w2.cell? ⟨bx, 12, none⟩ = some (.int .i64 a12) := (blk_cell HO2.out 12).trans rfl
      obtain ⟨ad', e0, z0, z1⟩ := at_T60 (Kd.C_below HR0.out HB2.out) a hq0 hq1
      have e0' := Option.some.inj e0
      subst e0'
      clear e0
      go_wp2_with fail
      refine (idx_yes _ _ _ HS0.out.n0 HS0.out.n1).mono ?_
      rintro e w3 ⟨rfl, hb⟩
      clear x0 x1 x2 x3 x4 x5 x6 x7 x8 x9 x10 x11 x12 z0 z1
      have HB3 := Aside0.mk (below_step HB2.out hb)
      have HO3 := Aside0.mk ((hb.block bx (blk_lt HO2.out)).trans HO2.out)
      clear hb
      have x0 : w3.cell? ⟨bx, 0, none⟩ = some (.slice (some ad0) P.length c0) := (blk_cell HO3.out 0).trans rfl
      have x1 : w3.cell? ⟨bx, 1, none⟩ = some (.slice (some ad1) L.length c1) := (blk_cell HO3.out 1).trans rfl
      have x2 : w3.cell? ⟨bx, 2, none⟩ = some (.int .i64 a2) := (blk_cell HO3.out 2).trans rfl
      have x3 : w3.cell? ⟨bx, 3, none⟩ = some (.int .i64 a3) := (blk_cell HO3.out 3).trans rfl
      have x4 : w3.cell? ⟨bx, 4, none⟩ = some (.int .i64 a4) := (blk_cell HO3.out 4).trans rfl
      have x5 : w3.cell? ⟨bx, 5, none⟩ = some (.int .i64 a5) := (blk_cell HO3.out 5).trans rfl
      have x6 : w3.cell? ⟨bx, 6, none⟩ = some (.int .i64 a6) := (blk_cell HO3.out 6).trans rfl
      have x7 : w3.cell? ⟨bx, 7, none⟩ = some (.int .i64 a7) := (blk_cell HO3.out 7).trans rfl
      have x8 : w3.cell? ⟨bx, 8, none⟩ = some (.int .i64 a8) := (blk_cell HO3.out 8).trans rfl
      have x9 : w3.cell? ⟨bx, 9, none⟩ = some (.int .i64 a9) := (blk_cell HO3.out 9).trans rfl
      have x10 : w3.cell? ⟨bx, 10, none⟩ = some (.int .i64 a10) := (blk_cell HO3.out 10).trans rfl
      have x11 : w3.cell? ⟨bx, 11, none⟩ = some (.int .i64 a11) := (blk_cell HO3.out 11).trans rfl
      have x12 : w3.cell? ⟨bx, 12, none⟩ = some (.int .i64 a12) := (blk_cell HO3.out 12).trans rfl
      go_wp2_with fail
      refine (taken_no _ c1 L i a p0 _ (Kd.C_below HR1.out HB3.out) HL.out hi0 (by omega) HS0.out.t0).mono ?_
      rintro e w4 ⟨rfl, hb⟩
      clear x0 x1 x2 x3 x4 x5 x6 x7 x8 x9 x10 x11 x12
      have HB4 := Aside0.mk (below_step HB3.out hb)
      have HO4 := Aside0.mk ((hb.block bx (blk_lt HO3.out)).trans HO3.out)
      clear hb
      go_wp2_with fail
      rw [rounds_succ]
      have x0 : w4.cell? ⟨bx, 0, none⟩ = some (.slice (some ad0) P.length c0) := (blk_cell HO4.out 0).trans rfl
      have x1 : w4.cell? ⟨bx, 1, none⟩ = some (.slice (some ad1) L.length c1) := (blk_cell HO4.out 1).trans rfl
      have x2 : w4.cell? ⟨bx, 2, none⟩ = some (.int .i64 a2) := (blk_cell HO4.out 2).trans rfl
      have x3 : w4.cell? ⟨bx, 3, none⟩ = some (.int .i64 a3) := (blk_cell HO4.out 3).trans rfl
      have x4 : w4.cell? ⟨bx, 4, none⟩ = some (.int .i64 a4) := (blk_cell HO4.out 4).trans rfl
      have x5 : w4.cell? ⟨bx, 5, none⟩ = some (.int .i64 a5) := (blk_cell HO4.out 5).trans rfl
      have x6 : w4.cell? ⟨bx, 6, none⟩ = some (.int .i64 a6) := (blk_cell HO4.out 6).trans rfl
      have x7 : w4.cell? ⟨bx, 7, none⟩ = some (.int .i64 a7) := (blk_cell HO4.out 7).trans rfl
      have x8 : w4.cell? ⟨bx, 8, none⟩ = some (.int .i64 a8) := (blk_cell HO4.out 8).trans rfl
      have x9 : w4.cell? ⟨bx, 9, none⟩ = some (.int .i64 a9) := (blk_cell HO4.out 9).trans rfl
      have x10 : w4.cell? ⟨bx, 10, none⟩ = some (.int .i64 a10) := (blk_cell HO4.out 10).trans rfl
      have x11 : w4.cell? ⟨bx, 11, none⟩ = some (.int .i64 a11) := (blk_cell HO4.out 11).trans rfl
      have x12 : w4.cell? ⟨bx, 12, none⟩ = some (.int .i64 a12) := (blk_cell HO4.out 12).trans rfl
      obtain ⟨ad', e0, z0, z1⟩ := at_T60 (Kd.C_below HR0.out HB4.out) a hq0 hq1
      have e0' := Option.some.inj e0
      subst e0'
      clear e0
      go_wp2_with fail
      refine (idx_yes _ _ _ HS0.out.m0 HS0.out.m1).mono ?_
      rintro e w5 ⟨rfl, hb⟩
      clear x0 x1 x2 x3 x4 x5 x6 x7 x8 x9 x10 x11 x12 z0 z1
      have HB5 := Aside0.mk (below_step HB4.out hb)
      have HO5 := Aside0.mk ((hb.block bx (blk_lt HO4.out)).trans HO4.out)
      clear hb
      have x0 : w5.cell? ⟨bx, 0, none⟩ = some (.slice (some ad0) P.length c0) := (blk_cell HO5.out 0).trans rfl
      have x1 : w5.cell? ⟨bx, 1, none⟩ = some (.slice (some ad1) L.length c1) := (blk_cell HO5.out 1).trans rfl
      have x2 : w5.cell? ⟨bx, 2, none⟩ = some (.int .i64 a2) := (blk_cell HO5.out 2).trans rfl
      have x3 : w5.cell? ⟨bx, 3, none⟩ = some (.int .i64 a3) := (blk_cell HO5.out 3).trans rfl
      have x4 : w5.cell? ⟨bx, 4, none⟩ = some (.int .i64 a4) := (blk_cell HO5.out 4).trans rfl
      have x5 : w5.cell? ⟨bx, 5, none⟩ = some (.int .i64 a5) := (blk_cell HO5.out 5).trans rfl
      have x6 : w5.cell? ⟨bx, 6, none⟩ = some (.int .i64 a6) := (blk_cell HO5.out 6).trans rfl
      have x7 : w5.cell? ⟨bx, 7, none⟩ = some (.int .i64 a7) := (blk_cell HO5.out 7).trans rfl
      have x8 : w5.cell? ⟨bx, 8, none⟩ = some (.int .i64 a8) := (blk_cell HO5.out 8).trans rfl
      have x9 : w5.cell? ⟨bx, 9, none⟩ = some (.int .i64 a9) := (blk_cell HO5.out 9).trans rfl
      have x10 : w5.cell? ⟨bx, 10, none⟩ = some (.int .i64 a10) := (blk_cell HO5.out 10).trans rfl
      have x11 : w5.cell? ⟨bx, 11, none⟩ = some (.int .i64 a11) := (blk_cell HO5.out 11).trans rfl
      have x12 : w5.cell? ⟨bx, 12, none⟩ = some (.int .i64 a12) := (blk_cell HO5.out 12).trans rfl
      go_wp2_with fail
      refine (taken_no _ c1 L i a p1 _ (Kd.C_below HR1.out HB5.out) HL.out hi0 (by omega) HS0.out.t1).mono ?_
      rintro e w6 ⟨rfl, hb⟩
      clear x0 x1 x2 x3 x4 x5 x6 x7 x8 x9 x10 x11 x12
      have HB6 := Aside0.mk (below_step HB5.out hb)
      have HO6 := Aside0.mk ((hb.block bx (blk_lt HO5.out)).trans HO5.out)
      clear hb
      go_wp2_with fail
      rw [rounds_succ]
      go_wp2_with fail
      go_roundg k1
      case measure => have := HK.out; omega
      case rel => exact ⟨1, rfl, ⟨by have := HK.out; omega⟩, ⟨by omega⟩, HB6, HO6⟩
    · subst e
      have x0 : wr.cell? ⟨bx, 0, none⟩ = some (.slice (some ad0) P.length c0) := (blk_cell HO.out 0).trans rfl
      have x1 : wr.cell? ⟨bx, 1, none⟩ = some (.slice (some ad1) L.length c1) := (blk_cell HO.out 1).trans rfl
      have x2 : wr.cell? ⟨bx, 2, none⟩ = some (.int .i64 a2) := (blk_cell HO.out 2).trans rfl
      have x3 : wr.cell? ⟨bx, 3, none⟩ = some (.int .i64 a3) := (blk_cell HO.out 3).trans rfl
      have x4 : wr.cell? ⟨bx, 4, none⟩ = some (.int .i64 a4) := (blk_cell HO.out 4).trans rfl
      have x5 : wr.cell? ⟨bx, 5, none⟩ = some (.int .i64 a5) := (blk_cell HO.out 5).trans rfl
      have x6 : wr.cell? ⟨bx, 6, none⟩ = some (.int .i64 a6) := (blk_cell HO.out 6).trans rfl
      have x7 : wr.cell? ⟨bx, 7, none⟩ = some (.int .i64 a7) := (blk_cell HO.out 7).trans rfl
      have x8 : wr.cell? ⟨bx, 8, none⟩ = some (.int .i64 a8) := (blk_cell HO.out 8).trans rfl
      have x9 : wr.cell? ⟨bx, 9, none⟩ = some (.int .i64 a9) := (blk_cell HO.out 9).trans rfl
      have x10 : wr.cell? ⟨bx, 10, none⟩ = some (.int .i64 a10) := (blk_cell HO.out 10).trans rfl
      have x11 : wr.cell? ⟨bx, 11, none⟩ = some (.int .i64 a11) := (blk_cell HO.out 11).trans rfl
      have x12 : wr.cell? ⟨bx, 12, none⟩ = some (.int .i64 a12) := (blk_cell HO.out 12).trans rfl
      obtain ⟨ad', e1, y0, y1, y2, y3, y4, y5⟩ := at_T37 (Kd.C_below HR1.out HB.out) i hi0 hi1
      have e1' := Option.some.inj e1
      subst e1'
      clear e1
      rw [HX.out] at y0 y1 y2 y3 y4 y5
      dsimp only at y0 y1 y2 y3 y4 y5
      have hne := HS1.out.ne
      dsimp only at hne
      go_wp2_with fail
      refine (plan_end.calls a b p0 p1 q0 q1 1 b q0 q1 _ rfl).mono ?_
      rintro e w1 ⟨rfl, hb⟩
      clear x0 x1 x2 x3 x4 x5 x6 x7 x8 x9 x10 x11 x12 y0 y1 y2 y3 y4 y5
      have HB1 := Aside0.mk (below_step HB.out hb)
      have HO1 := Aside0.mk ((hb.block bx (blk_lt HO.out)).trans HO.out)
      clear hb
      have x0 : w1.cell? ⟨bx, 0, none⟩ = some (.slice (some ad0) P.length c0) := (blk_cell HO1.out 0).trans rfl
      have x1 : w1.cell? ⟨bx, 1, none⟩ = some (.slice (some ad1) L.length c1) := (blk_cell HO1.out 1).trans rfl
      have x2 : w1.cell? ⟨bx, 2, none⟩ = some (.int .i64 a2) := (blk_cell HO1.out 2).trans rfl
      have x3 : w1.cell? ⟨bx, 3, none⟩ = some (.int .i64 a3) := (blk_cell HO1.out 3).trans rfl
      have x4 : w1.cell? ⟨bx, 4, none⟩ = some (.int .i64 a4) := (blk_cell HO1.out 4).trans rfl
      have x5 : w1.cell? ⟨bx, 5, none⟩ = some (.int .i64 a5) := (blk_cell HO1.out 5).trans rfl
      have x6 : w1.cell? ⟨bx, 6, none⟩ = some (.int .i64 a6) := (blk_cell HO1.out 6).trans rfl
      have x7 : w1.cell? ⟨bx, 7, none⟩ = some (.int .i64 a7) := (blk_cell HO1.out 7).trans rfl
      have x8 : w1.cell? ⟨bx, 8, none⟩ = some (.int .i64 a8) := (blk_cell HO1.out 8).trans rfl
      have x9 : w1.cell? ⟨bx, 9, none⟩ = some (.int .i64 a9) := (blk_cell HO1.out 9).trans rfl
      have x10 : w1.cell? ⟨bx, 10, none⟩ = some (.int .i64 a10) := (blk_cell HO1.out 10).trans rfl
      have x11 : w1.cell? ⟨bx, 11, none⟩ = some (.int .i64 a11) := (blk_cell HO1.out 11).trans rfl
      have x12 : w1.cell? ⟨bx, 12, none⟩ = some (.int .i64 a12) := (blk_cell HO1.out 12).trans rfl
      go_wp2_with fail
      have HB2 := Aside0.mk (below_alloc HB1.out (Obj.cells #[.int .i64 q0, .int .i64 q1] 35))
      have HO2 := Aside0.mk (((below_alloc (Below.refl w1.heap.size w1) (Obj.cells #[.int .i64 q0, .int .i64 q1] 35)).block bx (blk_lt HO1.out)).trans HO1.out)
      clear x0 x1 x2 x3 x4 x5 x6 x7 x8 x9 x10 x11 x12
      generalize w1.alloc (Obj.cells #[.int .i64 q0, .int .i64 q1] 35) = w2 at *
      have hq0 := HS1.out.part0
      have hq1 := HS1.out.part1
      have hq0_ := eq_true hq0
      have hq1_ := eq_true hq1
      have ix0 : ∀ w : World, (Instr.index 35 (.agg #[.int .i64 q0, .int .i64 q1]) (.int .i64 0)).run Tryd.prog w = .ok (.int .i64 q0) w := fun _ => by kernel_rfl
      have ix1 : ∀ w : World, (Instr.index 35 (.agg #[.int .i64 q0, .int .i64 q1]) (.int .i64 1)).run Tryd.prog w = .ok (.int .i64 q1) w := fun _ => by kernel_rfl
      refine wp_loop_rounds 3 ?_
      rw [rounds_succ]
      have x0 : w2.cell? ⟨bx, 0, none⟩ = some (.slice (some ad0) P.length c0) := (blk_cell HO2.out 0).trans rfl
      have x1 : w2.cell? ⟨bx, 1, none⟩ = some (.slice (some ad1) L.length c1) := (blk_cell HO2.out 1).trans rfl
      have x2 : w2.cell? ⟨bx, 2, none⟩ = some (.int .i64 a2) := (blk_cell HO2.out 2).trans rfl
      have x3 : w2.cell? ⟨bx, 3, none⟩ = some (.int .i64 a3) := (blk_cell HO2.out 3).trans rfl
      have x4 : w2.cell? ⟨bx, 4, none⟩ = some (.int .i64 a4) := (blk_cell HO2.out 4).trans rfl
      have x5 : w2.cell? ⟨bx, 5, none⟩ = some (.int .i64 a5) := (blk_cell HO2.out 5).trans rfl
      have x6 : w2.cell? ⟨bx, 6, none⟩ = some (.int .i64 a6) := (blk_cell HO2.out 6).trans rfl
      have x7 : w2.cell? ⟨bx, 7, none⟩ = some (.int .i64 a7) := (blk_cell HO2.out 7).trans rfl
      have x8 : w2.cell? ⟨bx, 8, none⟩ = some (.int .i64 a8) := (blk_cell HO2.out 8).trans rfl
      have x9 : w2.cell? ⟨bx, 9, none⟩ = some (.int .i64 a9) := (blk_cell HO2.out 9).trans rfl
      have x10 : w2.cell? ⟨bx, 10, none⟩ = some (.int .i64 a10) := (blk_cell HO2.out 10).trans rfl
      have x11 : w2.cell? ⟨bx, 11, none⟩ = some (.int .i64 a11) := (blk_cell HO2.out 11).trans rfl
      have x12 : w2.cell? ⟨bx, 12, none⟩ = some (.int .i64 a12) := (blk_cell HO2.out 12).trans rfl
      obtain ⟨ad', e0, z0, z1⟩ := at_T60 (Kd.C_below HR0.out HB2.out) b hq0 hq1
      have e0' := Option.some.inj e0
      subst e0'
      clear e0
      go_wp2_with fail
      refine (idx_yes _ _ _ HS1.out.n0 HS1.out.n1).mono ?_
      rintro e w3 ⟨rfl, hb⟩
      clear x0 x1 x2 x3 x4 x5 x6 x7 x8 x9 x10 x11 x12 z0 z1
      have HB3 := Aside0.mk (below_step HB2.out hb)
      have HO3 := Aside0.mk ((hb.block bx (blk_lt HO2.out)).trans HO2.out)
      clear hb
      have x0 : w3.cell? ⟨bx, 0, none⟩ = some (.slice (some ad0) P.length c0) := (blk_cell HO3.out 0).trans rfl
      have x1 : w3.cell? ⟨bx, 1, none⟩ = some (.slice (some ad1) L.length c1) := (blk_cell HO3.out 1).trans rfl
      have x2 : w3.cell? ⟨bx, 2, none⟩ = some (.int .i64 a2) := (blk_cell HO3.out 2).trans rfl
      have x3 : w3.cell? ⟨bx, 3, none⟩ = some (.int .i64 a3) := (blk_cell HO3.out 3).trans rfl
      have x4 : w3.cell? ⟨bx, 4, none⟩ = some (.int .i64 a4) := (blk_cell HO3.out 4).trans rfl
      have x5 : w3.cell? ⟨bx, 5, none⟩ = some (.int .i64 a5) := (blk_cell HO3.out 5).trans rfl
      have x6 : w3.cell? ⟨bx, 6, none⟩ = some (.int .i64 a6) := (blk_cell HO3.out 6).trans rfl
      have x7 : w3.cell? ⟨bx, 7, none⟩ = some (.int .i64 a7) := (blk_cell HO3.out 7).trans rfl
      have x8 : w3.cell? ⟨bx, 8, none⟩ = some (.int .i64 a8) := (blk_cell HO3.out 8).trans rfl
      have x9 : w3.cell? ⟨bx, 9, none⟩ = some (.int .i64 a9) := (blk_cell HO3.out 9).trans rfl
      have x10 : w3.cell? ⟨bx, 10, none⟩ = some (.int .i64 a10) := (blk_cell HO3.out 10).trans rfl
      have x11 : w3.cell? ⟨bx, 11, none⟩ = some (.int .i64 a11) := (blk_cell HO3.out 11).trans rfl
      have x12 : w3.cell? ⟨bx, 12, none⟩ = some (.int .i64 a12) := (blk_cell HO3.out 12).trans rfl
      go_wp2_with fail
      refine (taken_no _ c1 L i b q0 _ (Kd.C_below HR1.out HB3.out) HL.out hi0 (by omega) HS1.out.t0).mono ?_
      rintro e w4 ⟨rfl, hb⟩
      clear x0 x1 x2 x3 x4 x5 x6 x7 x8 x9 x10 x11 x12
      have HB4 := Aside0.mk (below_step HB3.out hb)
      have HO4 := Aside0.mk ((hb.block bx (blk_lt HO3.out)).trans HO3.out)
      clear hb
      go_wp2_with fail
      rw [rounds_succ]
      have x0 : w4.cell? ⟨bx, 0, none⟩ = some (.slice (some ad0) P.length c0) := (blk_cell HO4.out 0).trans rfl
      have x1 : w4.cell? ⟨bx, 1, none⟩ = some (.slice (some ad1) L.length c1) := (blk_cell HO4.out 1).trans rfl
      have x2 : w4.cell? ⟨bx, 2, none⟩ = some (.int .i64 a2) := (blk_cell HO4.out 2).trans rfl
      have x3 : w4.cell? ⟨bx, 3, none⟩ = some (.int .i64 a3) := (blk_cell HO4.out 3).trans rfl
      have x4 : w4.cell? ⟨bx, 4, none⟩ = some (.int .i64 a4) := (blk_cell HO4.out 4).trans rfl
      have x5 : w4.cell? ⟨bx, 5, none⟩ = some (.int .i64 a5) := (blk_cell HO4.out 5).trans rfl
      have x6 : w4.cell? ⟨bx, 6, none⟩ = some (.int .i64 a6) := (blk_cell HO4.out 6).trans rfl
      have x7 : w4.cell? ⟨bx, 7, none⟩ = some (.int .i64 a7) := (blk_cell HO4.out 7).trans rfl
      have x8 : w4.cell? ⟨bx, 8, none⟩ = some (.int .i64 a8) := (blk_cell HO4.out 8).trans rfl
      have x9 : w4.cell? ⟨bx, 9, none⟩ = some (.int .i64 a9) := (blk_cell HO4.out 9).trans rfl
      have x10 : w4.cell? ⟨bx, 10, none⟩ = some (.int .i64 a10) := (blk_cell HO4.out 10).trans rfl
      have x11 : w4.cell? ⟨bx, 11, none⟩ = some (.int .i64 a11) := (blk_cell HO4.out 11).trans rfl
      have x12 : w4.cell? ⟨bx, 12, none⟩ = some (.int .i64 a12) := (blk_cell HO4.out 12).trans rfl
      obtain ⟨ad', e0, z0, z1⟩ := at_T60 (Kd.C_below HR0.out HB4.out) b hq0 hq1
      have e0' := Option.some.inj e0
      subst e0'
      clear e0
      go_wp2_with fail
      refine (idx_yes _ _ _ HS1.out.m0 HS1.out.m1).mono ?_
      rintro e w5 ⟨rfl, hb⟩
      clear x0 x1 x2 x3 x4 x5 x6 x7 x8 x9 x10 x11 x12 z0 z1
      have HB5 := Aside0.mk (below_step HB4.out hb)
      have HO5 := Aside0.mk ((hb.block bx (blk_lt HO4.out)).trans HO4.out)
      clear hb
      have x0 : w5.cell? ⟨bx, 0, none⟩ = some (.slice (some ad0) P.length c0) := (blk_cell HO5.out 0).trans rfl
      have x1 : w5.cell? ⟨bx, 1, none⟩ = some (.slice (some ad1) L.length c1) := (blk_cell HO5.out 1).trans rfl
      have x2 : w5.cell? ⟨bx, 2, none⟩ = some (.int .i64 a2) := (blk_cell HO5.out 2).trans rfl
      have x3 : w5.cell? ⟨bx, 3, none⟩ = some (.int .i64 a3) := (blk_cell HO5.out 3).trans rfl
      have x4 : w5.cell? ⟨bx, 4, none⟩ = some (.int .i64 a4) := (blk_cell HO5.out 4).trans rfl
      have x5 : w5.cell? ⟨bx, 5, none⟩ = some (.int .i64 a5) := (blk_cell HO5.out 5).trans rfl
      have x6 : w5.cell? ⟨bx, 6, none⟩ = some (.int .i64 a6) := (blk_cell HO5.out 6).trans rfl
      have x7 : w5.cell? ⟨bx, 7, none⟩ = some (.int .i64 a7) := (blk_cell HO5.out 7).trans rfl
      have x8 : w5.cell? ⟨bx, 8, none⟩ = some (.int .i64 a8) := (blk_cell HO5.out 8).trans rfl
      have x9 : w5.cell? ⟨bx, 9, none⟩ = some (.int .i64 a9) := (blk_cell HO5.out 9).trans rfl
      have x10 : w5.cell? ⟨bx, 10, none⟩ = some (.int .i64 a10) := (blk_cell HO5.out 10).trans rfl
      have x11 : w5.cell? ⟨bx, 11, none⟩ = some (.int .i64 a11) := (blk_cell HO5.out 11).trans rfl
      have x12 : w5.cell? ⟨bx, 12, none⟩ = some (.int .i64 a12) := (blk_cell HO5.out 12).trans rfl
      go_wp2_with fail
      refine (taken_no _ c1 L i b q1 _ (Kd.C_below HR1.out HB5.out) HL.out hi0 (by omega) HS1.out.t1).mono ?_
      rintro e w6 ⟨rfl, hb⟩
      clear x0 x1 x2 x3 x4 x5 x6 x7 x8 x9 x10 x11 x12
      have HB6 := Aside0.mk (below_step HB5.out hb)
      have HO6 := Aside0.mk ((hb.block bx (blk_lt HO5.out)).trans HO5.out)
      clear hb
      go_wp2_with fail
      rw [rounds_succ]
      go_wp2_with fail
      go_roundg k1
      case measure => have := HK.out; omega
      case rel => exact ⟨2, rfl, ⟨by have := HK.out; omega⟩, ⟨by omega⟩, HB6, HO6⟩
    · subst e
      go_wp2_with fail
      go_ret
      exact ⟨rfl, HB.out⟩
end Go.Proofs.YtkhlndhleiaokaaDoor.MHo
set_option linter.unusedVariables false
set_option linter.unusedSimpArgs false
namespace Go.Proofs.YtkhlndhleiaokaaDoor.MHo
open Go.RowKit Go.Proofs.YtkhlndhleiaokaaDoorW.PrintWords Go.Proofs.YtkhlndhleiaokaaDoorW.PrintLast Go.Proofs.YtkhlndhleiaokaaDoorW.PrintMore
/-- Is a link of these two parts? -/
def sameEnds (a b : Int) (x : S37) : Bool := x.f0 == a && x.f1 == b
set_option maxHeartbeats 4000000 in
set_option maxRecDepth 4000 in
theorem same_walk (a b p0 p1 q0 q1 : Int) (bl : Nat) (x : S37) (w : World) (h : w.heap[bl]? = some (.cells #[.int .i64 a, .int .i64 b, .int .i64 p0, .int .i64 p1, .int .i64 q0, .int .i64 q1] 37)) :
    Calls Tryd.prog 88 #[val37 x, .pointer (some ⟨bl, 0, none⟩)] w fun e w' => e = .returned (.bool (sameEnds a b x)) ∧ Below w.heap.size w w' := by
  obtain ⟨xa, xb, ⟨x0, x1⟩, ⟨x2, x3⟩⟩ := x
  have c0 : w.cell? ⟨bl, 0, none⟩ = some (.int .i64 a) := (blk_cell h 0).trans rfl
  have c1 : w.cell? ⟨bl, 1, none⟩ = some (.int .i64 b) := (blk_cell h 1).trans rfl
  have hlt := blk_lt h
  have hne : bl ≠ w.heap.size := by omega
  have hne2 : w.heap.size ≠ bl := by omega
  clear h
  have HS : sameEnds a b ⟨xa, xb, ⟨x0, x1⟩, ⟨x2, x3⟩⟩ = (xa == a && xb == b) := rfl
  rw [HS]
  clear HS
  cases h1 : (xa == a) with
  | false =>
    go_enter Tryd.func88, Tryd.ntmps88
    go_wp2_with fail
    go_ret
    exact ⟨rfl, by repeat (first | exact Below.refl _ _ | apply below_alloc)⟩
  | true =>
    cases h2 : (xb == b) with
    | false =>
      go_enter Tryd.func88, Tryd.ntmps88
      go_wp2_with fail
      go_ret
      exact ⟨rfl, by repeat (first | exact Below.refl _ _ | apply below_alloc)⟩
    | true =>
      go_enter Tryd.func88, Tryd.ntmps88
      go_wp2_with fail
      go_ret
      exact ⟨rfl, by repeat (first | exact Below.refl _ _ | apply below_alloc)⟩
theorem twice_no (a b p0 p1 q0 q1 : Int) (bl : Nat) (A1 : Option Addr) (c1 : Nat) (L : List S37) (i : Int) (w : World) (hr : Kd.C k37 w A1 L.length L) (hl : L.length ≤ 1000) (h0 : 0 ≤ i) (h1 : i ≤ L.length) (ht : (L.take i.toNat).any (sameEnds a b) = false)
    (h : w.heap[bl]? = some (.cells #[.int .i64 a, .int .i64 b, .int .i64 p0, .int .i64 p1, .int .i64 q0, .int .i64 q1] 37)) :
    Calls Tryd.prog 87 #[.slice A1 i.toNat c1, .func (.func 88) #[] #[.pointer (some ⟨bl, 0, none⟩)]] w fun e w' => e = .returned (.bool false) ∧ Below w.heap.size w w' := by
  have hlen : (L.take i.toNat).length = i.toNat := by rw [List.length_take]; omega
  have h := containsFunc (sameEnds a b) 88 #[.pointer (some ⟨bl, 0, none⟩)] (entersT Tryd.func88 (by kernel_rfl) rfl) A1 c1 (L.take i.toNat) w (Kd.C_take hr (show i.toNat ≤ L.length by omega)) (by rw [hlen]; omega)
    (fun W x hW => same_walk a b p0 p1 q0 q1 bl x W ((hW.block bl (blk_lt h)).trans h))
  rw [hlen, ht] at h
  exact h
/-- A link that may be, behind those ahead of it. -/
structure LinkOk (P : List S60) (T : List S37) (x : S37) : Prop where
  a0 : 0 ≤ x.f0
  ab : x.f0 < x.f1
  b1 : x.f1 < P.length
  once : T.any (sameEnds x.f0 x.f1) = false
  s0 : SideOk P T x.f0 x.f2
  s1 : SideOk P T x.f1 x.f3
set_option maxHeartbeats 8000000 in
set_option maxRecDepth 4000 in
theorem links_yes (A0 : Option Addr) (c0 : Nat) (P : List S60) (A1 : Option Addr) (c1 : Nat) (L : List S37) (a2 a3 a4 a5 a6 a7 a8 a9 a10 a11 a12 : Int) (w : World) (hr0 : Kd.C k60 w A0 P.length P) (hc0 : P.length ≤ c0) (hr1 : Kd.C k37 w A1 L.length L) (hc1 : L.length ≤ c1) (hL : L.length ≤ 10) (hk : ∀ i : Int, 0 ≤ i → i < L.length → LinkOk P (L.take i.toNat) (rd_T37 L i)) :
    Calls Tryd.prog 74 #[.agg #[.slice A0 P.length c0, .slice A1 L.length c1, .int .i64 a2, .int .i64 a3, .int .i64 a4, .int .i64 a5, .int .i64 a6, .int .i64 a7, .int .i64 a8, .int .i64 a9, .int .i64 a10, .int .i64 a11, .int .i64 a12]] w fun e w' => e = .returned .nilIface ∧ Below w.heap.size w w' := by
  have HR0 := Aside0.mk hr0
  have HR1 := Aside0.mk hr1
  have HC0 := Aside0.mk hc0
  have HC1 := Aside0.mk hc1
  have HK0 := Aside0.mk hk
  have HL := Aside0.mk hL
  have hd : decide ((10 : Int) < (L.length : Int)) = false := decide_eq_false (by omega)
  clear hr0 hr1 hc0 hc1 hk hL
  go_enter Tryd.func74, Tryd.ntmps74
  go_wp2_with fail
  have HO : Aside0 ((w.alloc (.cells #[.slice A0 P.length c0, .slice A1 L.length c1, .int .i64 a2, .int .i64 a3, .int .i64 a4, .int .i64 a5, .int .i64 a6, .int .i64 a7, .int .i64 a8, .int .i64 a9, .int .i64 a10, .int .i64 a11, .int .i64 a12] 25)).heap[w.heap.size]? = some (.cells #[.slice A0 P.length c0, .slice A1 L.length c1, .int .i64 a2, .int .i64 a3, .int .i64 a4, .int .i64 a5, .int .i64 a6, .int .i64 a7, .int .i64 a8, .int .i64 a9, .int .i64 a10, .int .i64 a11, .int .i64 a12] 25)) := ⟨heap_alloc_new _ _⟩
  have HB := Aside0.mk (below_alloc (Below.refl w.heap.size w) (Obj.cells #[.slice A0 P.length c0, .slice A1 L.length c1, .int .i64 a2, .int .i64 a3, .int .i64 a4, .int .i64 a5, .int .i64 a6, .int .i64 a7, .int .i64 a8, .int .i64 a9, .int .i64 a10, .int .i64 a11, .int .i64 a12] 25))
  generalize w.alloc (Obj.cells #[.slice A0 P.length c0, .slice A1 L.length c1, .int .i64 a2, .int .i64 a3, .int .i64 a4, .int .i64 a5, .int .i64 a6, .int .i64 a7, .int .i64 a8, .int .i64 a9, .int .i64 a10, .int .i64 a11, .int .i64 a12] 25) = wa at *
  obtain ⟨bx, hbx⟩ : ∃ bx, bx = w.heap.size := ⟨_, rfl⟩
  rw [← hbx]
  rw [← hbx] at HO
  have HBX := Aside0.mk hbx
  clear hbx hd
  go_loopg [13] (L.length + 1) (fun kq v13 w' => ∃ i : Int, v13 = .int .i64 i ∧ Aside0 (kq + i = L.length + 1 ∧ 0 ≤ i) ∧ Aside0 (Below w.heap.size w w') ∧ Aside0 (w'.heap[bx]? = some (.cells #[.slice A0 P.length c0, .slice A1 L.length c1, .int .i64 a2, .int .i64 a3, .int .i64 a4, .int .i64 a5, .int .i64 a6, .int .i64 a7, .int .i64 a8, .int .i64 a9, .int .i64 a10, .int .i64 a11, .int .i64 a12] 25)))
  case atStart => exact ⟨0, rfl, ⟨by omega⟩, HB, HO⟩
  case round =>
    clear HO HB
    obtain ⟨i, rfl, HK, HB, HO⟩ := hrel
    by_cases hi1 : i < (L.length : Int)
    · have hi0 := HK.out.2
      obtain ⟨ad1, e1, y0, y1, y2, y3, y4, y5⟩ := at_T37 (Kd.C_below HR1.out HB.out) i hi0 hi1
      cases e1
      have HQ := Aside0.mk (HK0.out i hi0 hi1)
      obtain ⟨x, hx⟩ : ∃ x, rd_T37 L i = x := ⟨_, rfl⟩
      have HX := Aside0.mk hx
      rw [hx] at y0 y1 y2 y3 y4 y5 HQ
      clear hx
      obtain ⟨a, b, ⟨p0, p1⟩, ⟨q0, q1⟩⟩ := x
      have HQ' : Aside0 (0 ≤ a ∧ a < b ∧ b < (P.length : Int)) := ⟨HQ.out.a0, HQ.out.ab, HQ.out.b1⟩
      dsimp only at y0 y1 y2 y3 y4 y5
      have hlt : decide (i < (L.length : Int)) = true := decide_eq_true hi1
      have p0_ := eq_true hi0
      have p1_ := eq_true hi1
      have hic : i ≤ (c1 : Int) := by have := HC1.out; omega
      have hw1 : wrap64 (i + 1) = i + 1 := by have := HL.out; unfold wrap64; omega
      have hge : decide (b ≤ a) = false := decide_eq_false (by have := HQ'.out; omega)
      cases gk with
      | zero => exact absurd HK.out (by omega)
      | succ k1 =>
      have x0 : wr.cell? ⟨bx, 0, none⟩ = some (.slice A0 P.length c0) := (blk_cell HO.out 0).trans rfl
      have x1 : wr.cell? ⟨bx, 1, none⟩ = some (.slice (some ad1) L.length c1) := (blk_cell HO.out 1).trans rfl
      have x2 : wr.cell? ⟨bx, 2, none⟩ = some (.int .i64 a2) := (blk_cell HO.out 2).trans rfl
      have x3 : wr.cell? ⟨bx, 3, none⟩ = some (.int .i64 a3) := (blk_cell HO.out 3).trans rfl
      have x4 : wr.cell? ⟨bx, 4, none⟩ = some (.int .i64 a4) := (blk_cell HO.out 4).trans rfl
      have x5 : wr.cell? ⟨bx, 5, none⟩ = some (.int .i64 a5) := (blk_cell HO.out 5).trans rfl
      have x6 : wr.cell? ⟨bx, 6, none⟩ = some (.int .i64 a6) := (blk_cell HO.out 6).trans rfl
      have x7 : wr.cell? ⟨bx, 7, none⟩ = some (.int .i64 a7) := (blk_cell HO.out 7).trans rfl
      have x8 : wr.cell? ⟨bx, 8, none⟩ = some (.int .i64 a8) := (blk_cell HO.out 8).trans rfl
      have x9 : wr.cell? ⟨bx, 9, none⟩ = some (.int .i64 a9) := (blk_cell HO.out 9).trans rfl
      have x10 : wr.cell? ⟨bx, 10, none⟩ = some (.int .i64 a10) := (blk_cell HO.out 10).trans rfl
      have x11 : wr.cell? ⟨bx, 11, none⟩ = some (.int .i64 a11) := (blk_cell HO.out 11).trans rfl
      have x12 : wr.cell? ⟨bx, 12, none⟩ = some (.int .i64 a12) := (blk_cell HO.out 12).trans rfl
      go_upto_region 6 with fail
      have HB1 := Aside0.mk (below_alloc HB.out (Obj.cells #[.int .i64 a, .int .i64 b, .int .i64 p0, .int .i64 p1, .int .i64 q0, .int .i64 q1] 37))
      have HO1 := Aside0.mk (((below_alloc (Below.refl wr.heap.size wr) (Obj.cells #[.int .i64 a, .int .i64 b, .int .i64 p0, .int .i64 p1, .int .i64 q0, .int .i64 q1] 37)).block bx (blk_lt HO.out)).trans HO.out)
      have HLk1 : Aside0 ((wr.alloc (Obj.cells #[.int .i64 a, .int .i64 b, .int .i64 p0, .int .i64 p1, .int .i64 q0, .int .i64 q1] 37)).heap[wr.heap.size]? = some (Obj.cells #[.int .i64 a, .int .i64 b, .int .i64 p0, .int .i64 p1, .int .i64 q0, .int .i64 q1] 37)) := ⟨heap_alloc_new _ _⟩
      clear x0 x1 x2 x3 x4 x5 x6 x7 x8 x9 x10 x11 x12 y0 y1 y2 y3 y4 y5
      generalize wr.alloc (Obj.cells #[.int .i64 a, .int .i64 b, .int .i64 p0, .int .i64 p1, .int .i64 q0, .int .i64 q1] 37) = w1 at *
      generalize wr.heap.size = bl at *
      have x0 : w1.cell? ⟨bx, 0, none⟩ = some (.slice A0 P.length c0) := (blk_cell HO1.out 0).trans rfl
      have x1 : w1.cell? ⟨bx, 1, none⟩ = some (.slice (some ad1) L.length c1) := (blk_cell HO1.out 1).trans rfl
      have x2 : w1.cell? ⟨bx, 2, none⟩ = some (.int .i64 a2) := (blk_cell HO1.out 2).trans rfl
      have x3 : w1.cell? ⟨bx, 3, none⟩ = some (.int .i64 a3) := (blk_cell HO1.out 3).trans rfl
      have x4 : w1.cell? ⟨bx, 4, none⟩ = some (.int .i64 a4) := (blk_cell HO1.out 4).trans rfl
      have x5 : w1.cell? ⟨bx, 5, none⟩ = some (.int .i64 a5) := (blk_cell HO1.out 5).trans rfl
      have x6 : w1.cell? ⟨bx, 6, none⟩ = some (.int .i64 a6) := (blk_cell HO1.out 6).trans rfl
      have x7 : w1.cell? ⟨bx, 7, none⟩ = some (.int .i64 a7) := (blk_cell HO1.out 7).trans rfl
      have x8 : w1.cell? ⟨bx, 8, none⟩ = some (.int .i64 a8) := (blk_cell HO1.out 8).trans rfl
      have x9 : w1.cell? ⟨bx, 9, none⟩ = some (.int .i64 a9) := (blk_cell HO1.out 9).trans rfl
      have x10 : w1.cell? ⟨bx, 10, none⟩ = some (.int .i64 a10) := (blk_cell HO1.out 10).trans rfl
      have x11 : w1.cell? ⟨bx, 11, none⟩ = some (.int .i64 a11) := (blk_cell HO1.out 11).trans rfl
      have x12 : w1.cell? ⟨bx, 12, none⟩ = some (.int .i64 a12) := (blk_cell HO1.out 12).trans rfl
      have l0 : w1.cell? ⟨bl, 0, none⟩ = some (.int .i64 a) := (blk_cell HLk1.out 0).trans rfl
      have l1 : w1.cell? ⟨bl, 1, none⟩ = some (.int .i64 b) := (blk_cell HLk1.out 1).trans rfl
      have l2 : w1.cell? ⟨bl, 2, none⟩ = some (.int .i64 p0) := (blk_cell HLk1.out 2).trans rfl
      have l3 : w1.cell? ⟨bl, 3, none⟩ = some (.int .i64 p1) := (blk_cell HLk1.out 3).trans rfl
      have l4 : w1.cell? ⟨bl, 4, none⟩ = some (.int .i64 q0) := (blk_cell HLk1.out 4).trans rfl
      have l5 : w1.cell? ⟨bl, 5, none⟩ = some (.int .i64 q1) := (blk_cell HLk1.out 5).trans rfl
      go_wp2_with fail
      refine (idx_yes a (P.length : Int) _ HQ'.out.1 (by have := HQ'.out; omega)).mono ?_
      rintro e w2 ⟨rfl, hb⟩
      clear x0 x1 x2 x3 x4 x5 x6 x7 x8 x9 x10 x11 x12 l0 l1 l2 l3 l4 l5
      have HB2 := Aside0.mk (below_step HB1.out hb)
      have HO2 := Aside0.mk ((hb.block bx (blk_lt HO1.out)).trans HO1.out)
      have HLk2 := Aside0.mk ((hb.block bl (blk_lt HLk1.out)).trans HLk1.out)
      clear hb
      have x0 : w2.cell? ⟨bx, 0, none⟩ = some (.slice A0 P.length c0) := (blk_cell HO2.out 0).trans rfl
      have x1 : w2.cell? ⟨bx, 1, none⟩ = some (.slice (some ad1) L.length c1) := (blk_cell HO2.out 1).trans rfl
      have x2 : w2.cell? ⟨bx, 2, none⟩ = some (.int .i64 a2) := (blk_cell HO2.out 2).trans rfl
      have x3 : w2.cell? ⟨bx, 3, none⟩ = some (.int .i64 a3) := (blk_cell HO2.out 3).trans rfl
      have x4 : w2.cell? ⟨bx, 4, none⟩ = some (.int .i64 a4) := (blk_cell HO2.out 4).trans rfl
      have x5 : w2.cell? ⟨bx, 5, none⟩ = some (.int .i64 a5) := (blk_cell HO2.out 5).trans rfl
      have x6 : w2.cell? ⟨bx, 6, none⟩ = some (.int .i64 a6) := (blk_cell HO2.out 6).trans rfl
      have x7 : w2.cell? ⟨bx, 7, none⟩ = some (.int .i64 a7) := (blk_cell HO2.out 7).trans rfl
      have x8 : w2.cell? ⟨bx, 8, none⟩ = some (.int .i64 a8) := (blk_cell HO2.out 8).trans rfl
      have x9 : w2.cell? ⟨bx, 9, none⟩ = some (.int .i64 a9) := (blk_cell HO2.out 9).trans rfl
      have x10 : w2.cell? ⟨bx, 10, none⟩ = some (.int .i64 a10) := (blk_cell HO2.out 10).trans rfl
      have x11 : w2.cell? ⟨bx, 11, none⟩ = some (.int .i64 a11) := (blk_cell HO2.out 11).trans rfl
      have x12 : w2.cell? ⟨bx, 12, none⟩ = some (.int .i64 a12) := (blk_cell HO2.out 12).trans rfl
      have l0 : w2.cell? ⟨bl, 0, none⟩ = some (.int .i64 a) := (blk_cell HLk2.out 0).trans rfl
      have l1 : w2.cell? ⟨bl, 1, none⟩ = some (.int .i64 b) := (blk_cell HLk2.out 1).trans rfl
      have l2 : w2.cell? ⟨bl, 2, none⟩ = some (.int .i64 p0) := (blk_cell HLk2.out 2).trans rfl
      have l3 : w2.cell? ⟨bl, 3, none⟩ = some (.int .i64 p1) := (blk_cell HLk2.out 3).trans rfl
      have l4 : w2.cell? ⟨bl, 4, none⟩ = some (.int .i64 q0) := (blk_cell HLk2.out 4).trans rfl
      have l5 : w2.cell? ⟨bl, 5, none⟩ = some (.int .i64 q1) := (blk_cell HLk2.out 5).trans rfl
      go_wp2_with fail
      refine (idx_yes _ _ _ (show (0 : Int) ≤ b by have := HQ'.out; omega) HQ'.out.2.2).mono ?_
      rintro e w3 ⟨rfl, hb⟩
      clear x0 x1 x2 x3 x4 x5 x6 x7 x8 x9 x10 x11 x12 l0 l1 l2 l3 l4 l5
      have HB3 := Aside0.mk (below_step HB2.out hb)
      have HO3 := Aside0.mk ((hb.block bx (blk_lt HO2.out)).trans HO2.out)
      have HLk3 := Aside0.mk ((hb.block bl (blk_lt HLk2.out)).trans HLk2.out)
      clear hb
      have x0 : w3.cell? ⟨bx, 0, none⟩ = some (.slice A0 P.length c0) := (blk_cell HO3.out 0).trans rfl
      have x1 : w3.cell? ⟨bx, 1, none⟩ = some (.slice (some ad1) L.length c1) := (blk_cell HO3.out 1).trans rfl
      have x2 : w3.cell? ⟨bx, 2, none⟩ = some (.int .i64 a2) := (blk_cell HO3.out 2).trans rfl
      have x3 : w3.cell? ⟨bx, 3, none⟩ = some (.int .i64 a3) := (blk_cell HO3.out 3).trans rfl
      have x4 : w3.cell? ⟨bx, 4, none⟩ = some (.int .i64 a4) := (blk_cell HO3.out 4).trans rfl
      have x5 : w3.cell? ⟨bx, 5, none⟩ = some (.int .i64 a5) := (blk_cell HO3.out 5).trans rfl
      have x6 : w3.cell? ⟨bx, 6, none⟩ = some (.int .i64 a6) := (blk_cell HO3.out 6).trans rfl
      have x7 : w3.cell? ⟨bx, 7, none⟩ = some (.int .i64 a7) := (blk_cell HO3.out 7).trans rfl
      have x8 : w3.cell? ⟨bx, 8, none⟩ = some (.int .i64 a8) := (blk_cell HO3.out 8).trans rfl
      have x9 : w3.cell? ⟨bx, 9, none⟩ = some (.int .i64 a9) := (blk_cell HO3.out 9).trans rfl
      have x10 : w3.cell? ⟨bx, 10, none⟩ = some (.int .i64 a10) := (blk_cell HO3.out 10).trans rfl
      have x11 : w3.cell? ⟨bx, 11, none⟩ = some (.int .i64 a11) := (blk_cell HO3.out 11).trans rfl
      have x12 : w3.cell? ⟨bx, 12, none⟩ = some (.int .i64 a12) := (blk_cell HO3.out 12).trans rfl
      have l0 : w3.cell? ⟨bl, 0, none⟩ = some (.int .i64 a) := (blk_cell HLk3.out 0).trans rfl
      have l1 : w3.cell? ⟨bl, 1, none⟩ = some (.int .i64 b) := (blk_cell HLk3.out 1).trans rfl
      have l2 : w3.cell? ⟨bl, 2, none⟩ = some (.int .i64 p0) := (blk_cell HLk3.out 2).trans rfl
      have l3 : w3.cell? ⟨bl, 3, none⟩ = some (.int .i64 p1) := (blk_cell HLk3.out 3).trans rfl
      have l4 : w3.cell? ⟨bl, 4, none⟩ = some (.int .i64 q0) := (blk_cell HLk3.out 4).trans rfl
      have l5 : w3.cell? ⟨bl, 5, none⟩ = some (.int .i64 q1) := (blk_cell HLk3.out 5).trans rfl
      go_wp2_with fail
      refine (twice_no a b p0 p1 q0 q1 bl _ c1 L i _ (Kd.C_below HR1.out HB3.out) (by have := HL.out; omega) hi0 (by omega) HQ.out.once HLk3.out).mono ?_
      rintro e w4 ⟨rfl, hb⟩
      clear x0 x1 x2 x3 x4 x5 x6 x7 x8 x9 x10 x11 x12 l0 l1 l2 l3 l4 l5
      have HB4 := Aside0.mk (below_step HB3.out hb)
      have HO4 := Aside0.mk ((hb.block bx (blk_lt HO3.out)).trans HO3.out)
      have HLk4 := Aside0.mk ((hb.block bl (blk_lt HLk3.out)).trans HLk3.out)
      clear hb
      have x0 : w4.cell? ⟨bx, 0, none⟩ = some (.slice A0 P.length c0) := (blk_cell HO4.out 0).trans rfl
      have x1 : w4.cell? ⟨bx, 1, none⟩ = some (.slice (some ad1) L.length c1) := (blk_cell HO4.out 1).trans rfl
      have x2 : w4.cell? ⟨bx, 2, none⟩ = some (.int .i64 a2) := (blk_cell HO4.out 2).trans rfl
      have x3 : w4.cell? ⟨bx, 3, none⟩ = some (.int .i64 a3) := (blk_cell HO4.out 3).trans rfl
      have x4 : w4.cell? ⟨bx, 4, none⟩ = some (.int .i64 a4) := (blk_cell HO4.out 4).trans rfl
      have x5 : w4.cell? ⟨bx, 5, none⟩ = some (.int .i64 a5) := (blk_cell HO4.out 5).trans rfl
      have x6 : w4.cell? ⟨bx, 6, none⟩ = some (.int .i64 a6) := (blk_cell HO4.out 6).trans rfl
      have x7 : w4.cell? ⟨bx, 7, none⟩ = some (.int .i64 a7) := (blk_cell HO4.out 7).trans rfl
      have x8 : w4.cell? ⟨bx, 8, none⟩ = some (.int .i64 a8) := (blk_cell HO4.out 8).trans rfl
      have x9 : w4.cell? ⟨bx, 9, none⟩ = some (.int .i64 a9) := (blk_cell HO4.out 9).trans rfl
      have x10 : w4.cell? ⟨bx, 10, none⟩ = some (.int .i64 a10) := (blk_cell HO4.out 10).trans rfl
      have x11 : w4.cell? ⟨bx, 11, none⟩ = some (.int .i64 a11) := (blk_cell HO4.out 11).trans rfl
      have x12 : w4.cell? ⟨bx, 12, none⟩ = some (.int .i64 a12) := (blk_cell HO4.out 12).trans rfl
      have l0 : w4.cell? ⟨bl, 0, none⟩ = some (.int .i64 a) := (blk_cell HLk4.out 0).trans rfl
      have l1 : w4.cell? ⟨bl, 1, none⟩ = some (.int .i64 b) := (blk_cell HLk4.out 1).trans rfl
      have l2 : w4.cell? ⟨bl, 2, none⟩ = some (.int .i64 p0) := (blk_cell HLk4.out 2).trans rfl
      have l3 : w4.cell? ⟨bl, 3, none⟩ = some (.int .i64 p1) := (blk_cell HLk4.out 3).trans rfl
      have l4 : w4.cell? ⟨bl, 4, none⟩ = some (.int .i64 q0) := (blk_cell HLk4.out 4).trans rfl
      have l5 : w4.cell? ⟨bl, 5, none⟩ = some (.int .i64 q1) := (blk_cell HLk4.out 5).trans rfl
      go_wp2_with fail
      refine (ports_yes A0 c0 P (some ad1) c1 L a2 a3 a4 a5 a6 a7 a8 a9 a10 a11 a12 i ⟨a, b, ⟨p0, p1⟩, ⟨q0, q1⟩⟩ _ (Kd.C_below HR0.out HB4.out) HC0.out (Kd.C_below HR1.out HB4.out) HC1.out (by have := HL.out; omega) hi0 hi1 HX.out HQ.out.s0 HQ.out.s1).mono ?_
      rintro e w5 ⟨rfl, hb⟩
      clear x0 x1 x2 x3 x4 x5 x6 x7 x8 x9 x10 x11 x12 l0 l1 l2 l3 l4 l5
      have HB5 := Aside0.mk (below_step HB4.out hb)
      have HO5 := Aside0.mk ((hb.block bx (blk_lt HO4.out)).trans HO4.out)
      have HLk5 := Aside0.mk ((hb.block bl (blk_lt HLk4.out)).trans HLk4.out)
      clear hb
      go_wp2_with fail
      go_roundg k1
      case measure => have := HK.out; omega
      case rel => exact ⟨i + 1, (by first | rfl | rw [hw1]), ⟨by have := HK.out; omega⟩, HB5, HO5⟩
    · have hlt : decide (i < (L.length : Int)) = false := decide_eq_false hi1
      go_wp2_with fail
      go_ret
      exact ⟨rfl, HB.out⟩
/-- A part that may be. -/
def PartOk (p : S60) : Prop := 1 ≤ p.f0 ∧ p.f0 ≤ 12 ∧ 0 ≤ p.f1 ∧ p.f1 ≤ 3 ∧ 3 * p.f1 + 1 ≤ p.f0
set_option maxHeartbeats 8000000 in
set_option maxRecDepth 4000 in
theorem parts_yes (A0 : Option Addr) (c0 : Nat) (P : List S60) (A1 : Option Addr) (c1 : Nat) (L : List S37) (a2 a3 a4 a5 a6 a7 a8 a9 a10 a11 a12 : Int) (w : World) (hr0 : Kd.C k60 w A0 P.length P) (hc0 : P.length ≤ c0) (hr1 : Kd.C k37 w A1 L.length L) (hc1 : L.length ≤ c1) (h1 : 1 ≤ P.length) (h6 : P.length ≤ 6) (hk : ∀ i : Int, 0 ≤ i → i < P.length → PartOk (rd_T60 P i)) :
    Calls Tryd.prog 73 #[.agg #[.slice A0 P.length c0, .slice A1 L.length c1, .int .i64 a2, .int .i64 a3, .int .i64 a4, .int .i64 a5, .int .i64 a6, .int .i64 a7, .int .i64 a8, .int .i64 a9, .int .i64 a10, .int .i64 a11, .int .i64 a12]] w fun e w' => e = .returned .nilIface ∧ Below w.heap.size w w' := by
  have HR0 := Aside0.mk hr0
  have HK0 := Aside0.mk hk
  have HL := Aside0.mk h6
  have hd1 : decide ((P.length : Int) < 1) = false := decide_eq_false (by omega)
  have hd6 : decide ((6 : Int) < (P.length : Int)) = false := decide_eq_false (by omega)
  clear hr0 hr1 hc0 hc1 hk h1 h6
  go_enter Tryd.func73, Tryd.ntmps73
  go_wp2_with fail
  have HO : Aside0 ((w.alloc (.cells #[.slice A0 P.length c0, .slice A1 L.length c1, .int .i64 a2, .int .i64 a3, .int .i64 a4, .int .i64 a5, .int .i64 a6, .int .i64 a7, .int .i64 a8, .int .i64 a9, .int .i64 a10, .int .i64 a11, .int .i64 a12] 25)).heap[w.heap.size]? = some (.cells #[.slice A0 P.length c0, .slice A1 L.length c1, .int .i64 a2, .int .i64 a3, .int .i64 a4, .int .i64 a5, .int .i64 a6, .int .i64 a7, .int .i64 a8, .int .i64 a9, .int .i64 a10, .int .i64 a11, .int .i64 a12] 25)) := ⟨heap_alloc_new _ _⟩
  have HB := Aside0.mk (below_alloc (Below.refl w.heap.size w) (Obj.cells #[.slice A0 P.length c0, .slice A1 L.length c1, .int .i64 a2, .int .i64 a3, .int .i64 a4, .int .i64 a5, .int .i64 a6, .int .i64 a7, .int .i64 a8, .int .i64 a9, .int .i64 a10, .int .i64 a11, .int .i64 a12] 25))
  generalize w.alloc (Obj.cells #[.slice A0 P.length c0, .slice A1 L.length c1, .int .i64 a2, .int .i64 a3, .int .i64 a4, .int .i64 a5, .int .i64 a6, .int .i64 a7, .int .i64 a8, .int .i64 a9, .int .i64 a10, .int .i64 a11, .int .i64 a12] 25) = wa at *
  clear HO hd1 hd6
  go_loopg [19] (P.length + 1) (fun kq v19 w' => ∃ i : Int, v19 = .int .i64 i ∧ Aside0 (kq + i = P.length + 1 ∧ 0 ≤ i) ∧ Aside0 (Below w.heap.size w w'))
  case atStart => exact ⟨0, rfl, ⟨by omega⟩, HB⟩
  case round =>
    clear HB
    obtain ⟨i, rfl, HK, HB⟩ := hrel
    by_cases hi1 : i < (P.length : Int)
    · have hi0 := HK.out.2
      obtain ⟨ad0, e0, y0, y1⟩ := at_T60 (Kd.C_below HR0.out HB.out) i hi0 hi1
      cases e0
      have HQ := Aside0.mk (HK0.out i hi0 hi1)
      obtain ⟨n, f, hx⟩ : ∃ n f, rd_T60 P i = ⟨n, f⟩ := ⟨_, _, rfl⟩
      rw [hx] at y0 y1 HQ
      clear hx
      dsimp only at y0 y1
      have HQ' : Aside0 (1 ≤ n ∧ n ≤ 12 ∧ 0 ≤ f ∧ f ≤ 3 ∧ 3 * f + 1 ≤ n) := ⟨HQ.out⟩
      have hlt : decide (i < (P.length : Int)) = true := decide_eq_true hi1
      have p0_ := eq_true hi0
      have p1_ := eq_true hi1
      have hw1 : wrap64 (i + 1) = i + 1 := by have := HL.out; unfold wrap64; omega
      have t1 : decide (n < 1) = false := decide_eq_false (by have := HQ'.out; omega)
      have t2 : decide (12 < n) = false := decide_eq_false (by have := HQ'.out; omega)
      have t3 : decide (f < 0) = false := decide_eq_false (by have := HQ'.out; omega)
      have t4 : decide (3 < f) = false := decide_eq_false (by have := HQ'.out; omega)
      have t5 : wrap64 (3 * f) = 3 * f := by have := HQ'.out; unfold wrap64; omega
      have t6 : wrap64 (3 * f + 1) = 3 * f + 1 := by have := HQ'.out; unfold wrap64; omega
      have t7 : decide (n < 3 * f + 1) = false := decide_eq_false (by have := HQ'.out; omega)
      cases gk with
      | zero => exact absurd HK.out (by omega)
      | succ k1 =>
      go_wp2_with fail
      go_roundg k1
      case measure => have := HK.out; omega
      case rel => exact ⟨i + 1, (by first | rfl | rw [hw1]), ⟨by have := HK.out; omega⟩, ⟨by repeat (first | exact HB.out | apply below_alloc)⟩⟩
    · have hlt : decide (i < (P.length : Int)) = false := decide_eq_false hi1
      go_wp2_with fail
      go_ret
      exact ⟨rfl, HB.out⟩
end Go.Proofs.YtkhlndhleiaokaaDoor.MHo
namespace Go.Proofs.YtkhlndhleiaokaaDoor.MHo
open Go.RowKit Go.Proofs.YtkhlndhleiaokaaDoorW.PrintWords Go.Proofs.YtkhlndhleiaokaaDoorW.PrintLast Go.Proofs.YtkhlndhleiaokaaDoorW.PrintMore
attribute [local go_sem] mp_u32s mp_u32m mp_u8s mp_u8m max2_int min2_int max_two min_two max_three min_three max_four min_four   -- for this text's walks alone
set_option linter.unusedVariables false
set_option linter.unusedSimpArgs false

/-! ### bits_Mul64: function 71 -/
def bits_Mul64.f (a0 : Int) (a1 : Int) : Option (Int × Int) := some (IntKind.u64.wrap ((IntKind.u64.wrap ((IntKind.u64.wrap ((a0 / 4294967296) * (a1 / 4294967296))) + ((IntKind.u64.wrap ((IntKind.u64.wrap ((a0 / 4294967296) * (Go.bits .and .u64 a1 4294967295))) + ((IntKind.u64.wrap ((Go.bits .and .u64 a0 4294967295) * (Go.bits .and .u64 a1 4294967295))) / 4294967296))) / 4294967296))) + ((IntKind.u64.wrap ((Go.bits .and .u64 (IntKind.u64.wrap ((IntKind.u64.wrap ((a0 / 4294967296) * (Go.bits .and .u64 a1 4294967295))) + ((IntKind.u64.wrap ((Go.bits .and .u64 a0 4294967295) * (Go.bits .and .u64 a1 4294967295))) / 4294967296))) 4294967295) + (IntKind.u64.wrap ((Go.bits .and .u64 a0 4294967295) * (a1 / 4294967296))))) / 4294967296)), IntKind.u64.wrap (a0 * a1))
set_option maxHeartbeats 8000000 in
set_option maxRecDepth 100000 in
theorem bits_Mul64.calls (a0 : Int) (a1 : Int) (r1 : Int) (r2 : Int) (w : World) (h : bits_Mul64.f a0 a1 = some (r1, r2)) :
  Calls Tryd.prog 71 #[.int .u64 a0, .int .u64 a1] w fun e w' => e = .returned (.tuple #[.int .u64 r1, .int .u64 r2]) ∧ Drawn0 w w' := by
 have H : (some (IntKind.u64.wrap ((IntKind.u64.wrap ((IntKind.u64.wrap ((a0 / 4294967296) * (a1 / 4294967296))) + ((IntKind.u64.wrap ((IntKind.u64.wrap ((a0 / 4294967296) * (Go.bits .and .u64 a1 4294967295))) + ((IntKind.u64.wrap ((Go.bits .and .u64 a0 4294967295) * (Go.bits .and .u64 a1 4294967295))) / 4294967296))) / 4294967296))) + ((IntKind.u64.wrap ((Go.bits .and .u64 (IntKind.u64.wrap ((IntKind.u64.wrap ((a0 / 4294967296) * (Go.bits .and .u64 a1 4294967295))) + ((IntKind.u64.wrap ((Go.bits .and .u64 a0 4294967295) * (Go.bits .and .u64 a1 4294967295))) / 4294967296))) 4294967295) + (IntKind.u64.wrap ((Go.bits .and .u64 a0 4294967295) * (a1 / 4294967296))))) / 4294967296)), IntKind.u64.wrap (a0 * a1))) = some (r1, r2) := h
 clear h
 simp only [Option.some.injEq, Prod.mk.injEq] at H
 obtain ⟨rfl, rfl⟩ := H
 go_enter Tryd.func71, Tryd.ntmps71
 go_wp2
 go_ret2
 exact ⟨by first | rfl | (simp; done) | (simp [*]; done), by repeat (first | exact Drawn0.refl _ | apply Drawn0.step)⟩


/-! ### bits_Mul: function 60 -/
def bits_Mul.f (a0 : Int) (a1 : Int) : Option (Int × Int) := (bits_Mul64.f a0 a1).bind fun bt101 => (some (bt101.1, bt101.2))
set_option maxHeartbeats 8000000 in
set_option maxRecDepth 100000 in
theorem bits_Mul.calls (a0 : Int) (a1 : Int) (r1 : Int) (r2 : Int) (w : World) (h : bits_Mul.f a0 a1 = some (r1, r2)) :
  Calls Tryd.prog 60 #[.int .u64 a0, .int .u64 a1] w fun e w' => e = .returned (.tuple #[.int .u64 r1, .int .u64 r2]) ∧ Drawn0 w w' := by
 have H : ((bits_Mul64.f a0 a1).bind fun bt101 => (some (bt101.1, bt101.2))) = some (r1, r2) := h
 clear h
 replace H := Option.bind_eq_some_iff.mp H
 obtain ⟨⟨t101, t102⟩, A30, H⟩ := H
 replace H : (some (t101, t102)) = some (r1, r2) := H
 have A3 := Aside0.mk A30
 clear A30
 simp only [Option.some.injEq, Prod.mk.injEq] at H
 obtain ⟨rfl, rfl⟩ := H
 go_enter Tryd.func60, Tryd.ntmps60
 go_wp2_with (first | ((with_reducible refine gate_callee (f := 71) rfl ?_); refine goesL_ (some 25) rfl rfl Tryd.func71 (by kernel_rfl) rfl #[.int .u64 a0, .int .u64 a1] rfl (by (try simp only [List.map_toArray, List.map_cons, List.map_nil]); first | done | rfl | (simp only [List.length_drop, List.length_take]; rfl)) ?_; (with_reducible refine (bits_Mul64.calls a0 a1 t101 t102 _ A3.out).mono ?_); rintro e w' ⟨rfl, ⟨nd, rfl⟩⟩; refine ⟨_, rfl, ?_⟩))
 go_ret2
 exact ⟨by first | rfl | (simp; done) | (simp [*]; done), by repeat (first | exact Drawn0.refl _ | apply Drawn0.step)⟩

end Go.Proofs.YtkhlndhleiaokaaDoor.MHo
