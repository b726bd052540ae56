/- Texts of this claim, laid together by a program (wip/e/merge2.py): HRd, HRe, MFrx58. -/
import Derived.Test.YtaaifdclojkdmaaDoorZFr2
import Derived.Deep.RegionHeld3
import Derived.Deep.RegionLaw
set_option linter.unusedVariables false
set_option linter.unusedSimpArgs false
set_option maxRecDepth 100000
namespace Go.Proofs.YtaaifdclojkdmaaDoor.MFr
open Go.RowKit Go.Proofs.YtaaifdclojkdmaaDoorW.PrintWords Go.Proofs.YtaaifdclojkdmaaDoorW.PrintLast Go.Proofs.YtaaifdclojkdmaaDoorW.PrintMore
theorem hinfo5 : (Tryd.prog.info? 5).map (fun i => (i.zero, i.size, i.bytes)) = some (some (.int .u8 0), 1, 1) := by kernel_rfl
def Rd (W : World) (base g : Nat) (v : Value) (l : List Int) (at_ : Int) (bad : Bool) : Prop :=
 W.heap[g]? = some (.cells #[v, .int .i64 at_, .bool bad] 108 (0, 0)) ∧ Kd.R (Kd.int .u8) 5 W base (fun k => k < g) v l ∧ base ≤ g
set_option maxHeartbeats 1000000 in
theorem new_walk (A0 : Option Addr) (c0 : Nat) (l : List Int) (w : World) (hr : Kd.C (Kd.int .u8) w A0 l.length l) (hl : l.length < 140737488355328) :
  Calls Tryd.prog 52 #[.slice A0 l.length c0] w fun e w' => ∃ g v, e = .returned (.pointer (some ⟨g, 0, none⟩)) ∧ Rd w' w.heap.size g v l 0 false ∧ Below w.heap.size w w' := by
 have HR0 := Aside0.mk hr
 have HL := Aside0.mk hl
 clear hr hl
 go_enter Tryd.func52, Tryd.ntmps52
 go_wp2_with (first | ((with_reducible refine gate_builtin (b := .append) (xs := #[.const (.slice none 0 0), .tmp 3]) rfl ?_); at_builtin; refine Kd.R_append_rows (Kd.int .u8) (w0 := w) w.heap.size rfl (.const (.slice none 0 0)) (.tmp 3) 23 5 (.int .u8 0) 1 rfl Tryd.underlying23 hinfo5 rfl (by decide) (by omega) (.slice none 0 0) ([] : List Int) l _ _ _ (fun _ => True) (fun _ => False) rfl rfl ?aO ?aR (fun _ _ h => h) (fun _ h => h.elim) ?aF ?aB ?aS ?aL ?_; (case aR => exact HR0.out); (case aB => exact Below.refl _ _); (case aF => exact (fun _ _ => trivial)); (case aO => exact (Kd.R_nil _ _ _ _ _)); (case aS => exact Nat.le_refl _); (case aL => have := HL.out; simp only [List.length_nil]; omega); intro v w1 ho hb hg hat; rw [List.nil_append] at ho; obtain ⟨A1, c1, e1⟩ := Kd.R_slice ho; subst e1; have HO := Aside0.mk ho; have HB := Aside0.mk hb; clear ho hb hg hat))
 go_ret
 refine ⟨w1.heap.size, .slice A1 l.length c1, rfl, ⟨by simpa using heap_alloc_new w1 _, Kd.R_mono (Kd.R_step (Kd.R_bound HO.out) (fun k hk hlt => ?_)) (fun k hk => ?_), HB.out.size⟩, below_alloc HB.out _⟩
 ·exact (below_alloc (Below.refl w1.heap.size w1) _).block k hlt
 ·have := hk.2.2.1; show k < w1.heap.size; omega
theorem Rd.cell {W : World} {base g : Nat} {v : Value} {l : List Int} {at_ : Int} {bad : Bool} (h : Rd W base g v l at_ bad) :
  W.cell? ⟨g, 0, none⟩ = some v ∧ W.cell? ⟨g, 1, none⟩ = some (.int .i64 at_) ∧ W.cell? ⟨g, 2, none⟩ = some (.bool bad) :=
 ⟨(blk_cell h.1 0).trans rfl, (blk_cell h.1 1).trans rfl, (blk_cell h.1 2).trans rfl⟩
theorem Rd.put {W : World} {base g : Nat} {v : Value} {l : List Int} {at_ : Int} {bad : Bool} (h : Rd W base g v l at_ bad) :
  (∀ n : Int, Rd (W.setCell ⟨g, 1, none⟩ (.int .i64 n)) base g v l n bad) ∧ (∀ b : Bool, Rd (W.setCell ⟨g, 2, none⟩ (.bool b)) base g v l at_ b) :=
 ⟨fun n => ⟨by simpa using blk_set h.1 1 (.int .i64 n), Kd.R_far h.2.1 (fun k hk => Nat.ne_of_lt hk) _, h.2.2⟩, fun b => ⟨by simpa using blk_set h.1 2 (.bool b), Kd.R_far h.2.1 (fun k hk => Nat.ne_of_lt hk) _, h.2.2⟩⟩
set_option maxHeartbeats 1000000 in
theorem take_bad {base g : Nat} {v : Value} {l : List Int} {at_ : Int} (n : Int) (w : World) (h : Rd w base g v l at_ true) :
  Calls Tryd.prog 80 #[.pointer (some ⟨g, 0, none⟩), .int .i64 n] w fun e w' => e = .returned (.slice none 0 0) ∧ w' = w := by
 have hc := h.cell.2.2
 clear h
 go_enter Tryd.func80, Tryd.ntmps80
 go_wp2
 go_ret
 exact ⟨rfl, rfl⟩
set_option maxHeartbeats 1000000 in
theorem take_no {base g : Nat} {A : Option Addr} {c : Nat} {l : List Int} {at_ : Int} (n : Int) (w : World) (h : Rd w base g (.slice A l.length c) l at_ false) (a0 : 0 ≤ at_) (a1 : at_ ≤ l.length) (hl : l.length ≤ 1000000) (hn : n < 0 ∨ (l.length : Int) - at_ < n) :
  Calls Tryd.prog 80 #[.pointer (some ⟨g, 0, none⟩), .int .i64 n] w fun e w' => e = .returned (.slice none 0 0) ∧ ∃ m, w' = (w.drewN m).setCell ⟨g, 2, none⟩ (.bool true) := by
 obtain ⟨hc0, hc1, hc2⟩ := h.cell
 have hf2 := blk_frozen h.1 2
 clear h
 rcases Int.lt_or_le n 0 with hn0 | hn0
 ·have hd : decide (n < 0) = true := decide_eq_true hn0
  go_enter Tryd.func80, Tryd.ntmps80
  go_wp2
  go_quiet (fail)
  go_wp2
  go_ret
  exact ⟨rfl, _, rfl⟩
 ·have hd : decide (n < 0) = false := decide_eq_false (by omega)
  have hn1 : (l.length : Int) - at_ < n := by omega
  have hd1 : decide ((l.length : Int) - at_ < n) = true := decide_eq_true hn1
  clear hn
  go_enter Tryd.func80, Tryd.ntmps80
  go_wp2
  go_quiet (fail)
  go_wp2
  go_ret
  exact ⟨rfl, _, rfl⟩
end Go.Proofs.YtaaifdclojkdmaaDoor.MFr
set_option linter.unusedVariables false
set_option linter.unusedSimpArgs false
set_option maxRecDepth 100000
namespace Go.Proofs.YtaaifdclojkdmaaDoor.MFr
open Go.RowKit Go.Proofs.YtaaifdclojkdmaaDoorW.PrintWords Go.Proofs.YtaaifdclojkdmaaDoorW.PrintLast Go.Proofs.YtaaifdclojkdmaaDoorW.PrintMore
theorem drew_below {B : Nat} {W w1 : World} (h : Below B W.drew w1) : Below B W w1 := (Below.refl B W).drew.trans h
theorem below_weaken' {base B : Nat} {w W w1 : World} (h : Below base w W) (hb : base ≤ B) (k : Below B W.drew w1) : Below base w w1 := h.trans ((drew_below k).mono hb)
theorem wi64 {x : Int} (h1 : -9223372036854775808 ≤ x) (h2 : x ≤ 9223372036854775807) : IntKind.i64.wrap x = x := by
 rw [IntKind.wrap_i64]; omega
set_option maxHeartbeats 4000000 in
theorem take_yes {base g : Nat} {A : Option Addr} {c : Nat} {l : List Int} {at_ : Int} (n : Int) (w : World) (h : Rd w base g (.slice A l.length c) l at_ false) (a0 : 0 ≤ at_) (a1 : at_ ≤ l.length) (hl : l.length ≤ 1000000) (h0 : 0 ≤ n) (hn : n ≤ (l.length : Int) - at_) :
  Calls Tryd.prog 80 #[.pointer (some ⟨g, 0, none⟩), .int .i64 n] w fun e w' => ∃ v, e = .returned v ∧ (Kd.int .u8).R 5 w' w.heap.size (fun _ => True) v ((l.take (at_ + n).toNat).drop at_.toNat) ∧ Below base w w' ∧ KeepBut w w' g none ∧ Rd w' base g (.slice A l.length c) l (at_ + n) false := by
 obtain ⟨hc0, hc1, hc2⟩ := h.cell
 have hf1 := blk_frozen h.1 1
 have hg : g < w.heap.size := blk_lt h.1
 have HH := Aside0.mk h
 have hcl : l.length ≤ c := (Kd.R_reads' h.2.1).2.1
 have hd : decide (n < 0) = false := decide_eq_false (by omega)
 have hd1 : decide ((l.length : Int) - at_ < n) = false := decide_eq_false (by omega)
 clear h
 have hw1 : wrap64 (at_ + n) = at_ + n := by unfold wrap64; omega
 obtain ⟨i0, hi0, hz0⟩ : ∃ i, Tryd.prog.info? 5 = some i ∧ i.size = 1 := by
  have := hinfo5
  obtain ⟨i, hi, hh⟩ := Option.map_eq_some_iff.1 this
  exact ⟨i, hi, by simp only [Prod.mk.injEq] at hh; exact hh.2.1⟩
 have hcut := cut_mid (P := Tryd.prog) 23 5 .i64 .i64 Tryd.underlying23 hi0 1 hz0 A l.length c at_ (at_ + n) a0 (by omega) (by omega) hcl
 go_enter Tryd.func80, Tryd.ntmps80
 go_wp2
 go_quiet (fail)
 go_wp2
 have HR := Aside0.mk (HH.out.put.1 (at_ + n))
 have HB := Aside0.mk (show Below base w ((w.drewN nq).setCell ⟨g, 1, none⟩ (.int .i64 (at_ + n))) from (pw_below_drewN (Below.refl _ _) nq).setCell HH.out.2.2 _)
 have HK := Aside0.mk ((KeepBut.of_below (pw_below_drewN (Below.refl _ _) nq) g none : KeepBut w (w.drewN nq) g none).set_ 1 (.int .i64 (at_ + n)))
 have HR1 : Aside0 (Rd ((w.drewN nq).setCell ⟨g, 1, none⟩ (.int .i64 (at_ + n))) base g (.slice A l.length c) l (at_ + n) false) := Aside0.mk (Rd.put (show Rd (w.drewN nq) base g (.slice A l.length c) l at_ false from ⟨HH.out.1, Kd.R_drewN HH.out.2.1 nq, HH.out.2.2⟩) |>.1 (at_ + n))
 generalize (w.drewN nq).setCell ⟨g, 1, none⟩ (.int .i64 (at_ + n)) = W at *
 clear hc0 hc1 hc2
 obtain ⟨hc0, hc1, hc2⟩ := HR1.out.cell
 have hs2 : at_ + n - n = at_ := by omega
 have hs3 : IntKind.i64.wrap at_ = at_ := wi64 (by omega) (by omega)
 have hs5 : 0 ≤ at_ + n := by omega
 have hs6 : at_ + n ≤ (c : Int) := by omega
 have hs7 : at_ ≤ max (at_ + n) 0 := by omega
 have hC := Aside0.mk (Kd.C_drew (Kd.C_mid (lo := at_.toNat) (hi := (at_ + n).toNat) (Kd.R_reads' HR1.out.2.1).2.2 (by omega) (by omega) hcl))
 have hlm : ((l.take (at_ + n).toNat).drop at_.toNat).length = (at_ + n).toNat - at_.toNat := by rw [List.length_drop, List.length_take]; omega
 rw [hlm] at hC
 have hC' : Aside0 ((Kd.int .u8).C W.drew (if c = at_.toNat then A else A.map (·.add at_.toNat)) ((at_ + n).toNat - at_.toNat) ((l.take (at_ + n).toNat).drop at_.toNat)) := ⟨by have e : at_.toNat * (Kd.int .u8).sz = at_.toNat := Nat.mul_one _; have := hC.out; rw [e] at this; exact this⟩
 go_region_law (refine Kd.R_append_rows_step (Kd.int .u8) (w0 := W.drew) W.heap.size ?aW (.const (.slice none 0 0)) (.tmp 54) 23 5 (.int .u8 0) 1 rfl Tryd.underlying23 hinfo5 rfl (by decide) (by omega) (.slice none 0 0) ([] : List Int) ((l.take (at_ + n).toNat).drop at_.toNat) _ _ _ (fun _ => True) (fun _ => False) rfl rfl ?aO ?aR (fun _ _ h => h) (fun _ h => h.elim) ?aF ?aB ?aS ?aL ?_; (case aW => first | rfl | decide | simp [Region.wanted]); (case aR => exact hC'.out); (case aB => exact Below.refl _ _); (case aF => exact (fun _ _ => trivial)); (case aO => exact (Kd.R_nil _ _ _ _ _)); (case aS => exact Nat.le_refl _); (case aL => simp only [List.length_nil]; omega); intro v w1 ho hb hg hat; rw [List.nil_append] at ho)
 all_goals go_wp2
 all_goals
  go_ret
  first
  | exact ⟨v, rfl, Kd.R_lower ho HK.out.1, below_weaken' HB.out (Nat.le_trans HR1.out.2.2 (Nat.le_of_lt (blk_lt HR1.out.1))) hb, HK.out.trans (KeepBut.of_below (drew_below hb) g none) (.inl rfl), ⟨(hb.block g (blk_lt HR1.out.1)).trans HR1.out.1, Kd.R_below HR1.out.2.1 (drew_below hb), HR1.out.2.2⟩⟩
  | (subst_vars; exact ⟨v, rfl, Kd.R_lower ho HK.out.1, below_weaken' HB.out (Nat.le_trans HR1.out.2.2 (Nat.le_of_lt (blk_lt HR1.out.1))) hb, HK.out.trans (KeepBut.of_below (drew_below hb) g none) (.inl rfl), ⟨(hb.block g (blk_lt HR1.out.1)).trans HR1.out.1, Kd.R_below HR1.out.2.1 (drew_below hb), HR1.out.2.2⟩⟩)
end Go.Proofs.YtaaifdclojkdmaaDoor.MFr
namespace Go.Proofs.YtaaifdclojkdmaaDoor.MFr
open Go.RowKit Go.Proofs.YtaaifdclojkdmaaDoorW.PrintWords Go.Proofs.YtaaifdclojkdmaaDoorW.PrintLast Go.Proofs.YtaaifdclojkdmaaDoorW.PrintMore
attribute [local go_sem] mp_u32s mp_u32m mp_u8s mp_u8m max2_int min2_int max_two min_two max_three min_three max_four min_four
set_option linter.unusedVariables false
set_option linter.unusedSimpArgs false
def drumlineref1_SameInts.l0 : Nat → List Int → List Int → Int → Option (Bool)
 | 0, _, _, _ => none
 | k + 1, x0, x1, x5 => if x5 < (x0.length : Int) then (if 0 ≤ x5 then (if x5 < (x1.length : Int) then (if (rd x0 x5) = (rd x1 x5) then (drumlineref1_SameInts.l0 k x0 x1 (wrap64 (x5 + 1))) else (some false)) else (none)) else (none)) else (some true)
def drumlineref1_SameInts.f (k : Nat) (l0 : List Int) (l1 : List Int) : Option (Bool) := if (l0.length : Int) = (l1.length : Int) then (drumlineref1_SameInts.l0 k l0 l1 0) else (some false)
theorem drumlineref1_SameInts.mono_l : ∀ k, (∀ y0 y1 y2, LeO (drumlineref1_SameInts.l0 k y0 y1 y2) (drumlineref1_SameInts.l0 (k + 1) y0 y1 y2))
 | 0 => fun _ _ _ r h => by simp [drumlineref1_SameInts.l0] at h
 | k + 1 => by
  have ih0 := drumlineref1_SameInts.mono_l k
  ·intro y0 y1 y2
   unfold drumlineref1_SameInts.l0
   repeat' first
   | (with_reducible exact ih0 _ _ _)
   | (with_reducible exact LeO.refl _)
   | (with_reducible exact LeO.none _)
   | (with_reducible refine LeO.ite ?_ ?_)
   | (with_reducible refine LeO.bind ?_ (fun _ => ?_))
   | exact ih0 _ _ _
   | exact LeO.none _
   | refine LeO.ite ?_ ?_
   | refine LeO.bind ?_ (fun _ => ?_)
theorem drumlineref1_SameInts.mono : ∀ a0 a1 k, LeO (drumlineref1_SameInts.f k a0 a1) (drumlineref1_SameInts.f (k + 1) a0 a1) := by
 intro a0 a1 k
 have ih0 := drumlineref1_SameInts.mono_l k
 unfold drumlineref1_SameInts.f
 repeat' first
   | (with_reducible exact ih0 _ _ _)
   | (with_reducible exact LeO.refl _)
   | (with_reducible exact LeO.none _)
   | (with_reducible refine LeO.ite ?_ ?_)
   | (with_reducible refine LeO.bind ?_ (fun _ => ?_))
   | exact ih0 _ _ _
   | exact LeO.none _
   | refine LeO.ite ?_ ?_
   | refine LeO.bind ?_ (fun _ => ?_)
set_option maxHeartbeats 8000000 in
set_option maxRecDepth 100000 in
theorem drumlineref1_SameInts.calls (k : Nat) (A0 : Option Addr) (c0 : Nat) (l0 : List Int) (A1 : Option Addr) (c1 : Nat) (l1 : List Int) (r : Bool) (w : World) (hr0 : Kd.C (Kd.int .i64) w A0 l0.length l0) (hc0 : l0.length ≤ c0) (hr1 : Kd.C (Kd.int .i64) w A1 l1.length l1) (hc1 : l1.length ≤ c1) (h : drumlineref1_SameInts.f k l0 l1 = some r) :
  Calls Tryd.prog 38 #[.slice A0 l0.length c0, .slice A1 l1.length c1] w fun e w' => e = .returned (.bool r) ∧ Drawn0 w w' := by
 have HR0 := Aside0.mk hr0
 have HC0 := Aside0.mk hc0
 clear hr0 hc0
 have HR1 := Aside0.mk hr1
 have HC1 := Aside0.mk hc1
 clear hr1 hc1
 have H : (if (l0.length : Int) = (l1.length : Int) then (drumlineref1_SameInts.l0 k l0 l1 0) else (some false)) = some r := h
 clear h
 by_cases c3 : (l0.length : Int) = (l1.length : Int)
 ·rw [if_pos c3] at H
  have c3b0 : ((l0.length : Int) == (l1.length : Int)) = true := beq_iff_eq.mpr c3
  have c3b1 : ((l0.length : Int) != (l1.length : Int)) = false := bne_eq_false_iff_eq.mpr c3
  have c3b2 : (l0.length == l1.length) = true := by first | simpa using c3 | (simp at c3 ⊢; omega)
  clear c3
  have H' := Aside0.mk H
  clear H
  go_enter Tryd.func38, Tryd.ntmps38
  go_wp2
  repeat (go_quiet (fail); try go_wp2)
  go_loopg [5] k (fun kq v5 w' => ∃ (x5_1 : Int), v5 = .int .i64 x5_1 ∧ Aside0 (drumlineref1_SameInts.l0 kq l0 l1 x5_1 = some r) ∧ Aside0 (kq ≤ k) ∧ Drawn0 w w')
  case atStart => exact ⟨(0), (by first | rfl | (simp; done) | (simp [*]; done)), H', ⟨Nat.le_refl _⟩, by repeat (first | exact Drawn0.refl _ | apply Drawn0.step)⟩
  case round =>
   clear H'
   try clear c1
   try clear p2
   try clear c3
   try clear c3b0
   try clear c3b1
   try clear c3b2
   obtain ⟨x5_1, rfl, HA, HK1, ⟨m1, rfl⟩⟩ := hrel
   cases gk with
   | zero => exact absurd HA.out (by simp [drumlineref1_SameInts.l0])
   | succ k1 =>
    have H := HA.out
    clear HA
    simp only [drumlineref1_SameInts.l0] at H
    by_cases c4 : x5_1 < (l0.length : Int)
    ·rw [if_pos c4] at H
     have c4b0 : decide (x5_1 < (l0.length : Int)) = true := decide_eq_true c4
     clear c4
     by_cases c5 : 0 ≤ x5_1
     ·rw [if_pos c5] at H
      have c5b0 : decide (0 ≤ x5_1) = true := decide_eq_true c5
      clear c5
      by_cases c6 : x5_1 < (l1.length : Int)
      ·rw [if_pos c6] at H
       have c6b0 : decide (x5_1 < (l1.length : Int)) = true := decide_eq_true c6
       clear c6
       by_cases c7 : (rd l0 x5_1) = (rd l1 x5_1)
       ·rw [if_pos c7] at H
        have c7b0 : ((rd l0 x5_1) == (rd l1 x5_1)) = true := beq_iff_eq.mpr c7
        have c7b1 : ((rd l0 x5_1) != (rd l1 x5_1)) = false := bne_eq_false_iff_eq.mpr c7
        clear c7
        have H' := Aside0.mk H
        clear H
        have p204 : 0 ≤ (x5_1 : Int) := of_decide_eq_true (by first | (with_reducible assumption) | assumption)
        have q204 : x5_1 < (l0.length : Int) := of_decide_eq_true (by first | (with_reducible assumption) | assumption)
        obtain ⟨ad204, e204, hx204_0⟩ := Kd.at_int HR0.out x5_1 p204 q204
        cases e204
        replace p204 := eq_true p204
        replace q204 := eq_true q204
        have p205 : 0 ≤ (x5_1 : Int) := of_decide_eq_true (by first | (with_reducible assumption) | assumption)
        have q205 : x5_1 < (l1.length : Int) := of_decide_eq_true (by first | (with_reducible assumption) | assumption)
        obtain ⟨ad205, e205, hx205_0⟩ := Kd.at_int HR1.out x5_1 p205 q205
        cases e205
        replace p205 := eq_true p205
        replace q205 := eq_true q205
        go_wp2
        repeat (go_quiet (fail); try go_wp2)
        go_roundg k1
        case measure => have := HK1.out; omega
        case rel => exact ⟨(wrap64 (x5_1 + 1)), (by first | rfl | (simp; done) | (simp [*]; done)), H', ⟨by have := HK1.out; omega⟩, by repeat (first | exact Drawn0.refl _ | apply Drawn0.step)⟩
       ·rw [if_neg c7] at H
        have c7b0 : ((rd l0 x5_1) == (rd l1 x5_1)) = false := beq_eq_false_iff_ne.mpr c7
        have c7b1 : ((rd l0 x5_1) != (rd l1 x5_1)) = true := bne_iff_ne.mpr c7
        obtain rfl := Option.some.inj H
        have p204 : 0 ≤ (x5_1 : Int) := of_decide_eq_true (by first | (with_reducible assumption) | assumption)
        have q204 : x5_1 < (l0.length : Int) := of_decide_eq_true (by first | (with_reducible assumption) | assumption)
        obtain ⟨ad204, e204, hx204_0⟩ := Kd.at_int HR0.out x5_1 p204 q204
        cases e204
        replace p204 := eq_true p204
        replace q204 := eq_true q204
        have p205 : 0 ≤ (x5_1 : Int) := of_decide_eq_true (by first | (with_reducible assumption) | assumption)
        have q205 : x5_1 < (l1.length : Int) := of_decide_eq_true (by first | (with_reducible assumption) | assumption)
        obtain ⟨ad205, e205, hx205_0⟩ := Kd.at_int HR1.out x5_1 p205 q205
        cases e205
        replace p205 := eq_true p205
        replace q205 := eq_true q205
        go_wp2
        repeat (go_quiet (fail); try go_wp2)
        go_ret
        exact ⟨by first | rfl | (simp; done) | (simp [*]; done), by repeat (first | exact Drawn0.refl _ | apply Drawn0.step)⟩
      ·rw [if_neg c6] at H
       exact absurd H (by simp)
     ·rw [if_neg c5] at H
      exact absurd H (by simp)
    ·rw [if_neg c4] at H
     have c4b0 : decide (x5_1 < (l0.length : Int)) = false := decide_eq_false c4
     clear c4
     obtain rfl := Option.some.inj H
     go_wp2
     repeat (go_quiet (fail); try go_wp2)
     go_ret
     exact ⟨by first | rfl | (simp; done) | (simp [*]; done), by repeat (first | exact Drawn0.refl _ | apply Drawn0.step)⟩
 ·rw [if_neg c3] at H
  have c3b0 : ((l0.length : Int) == (l1.length : Int)) = false := beq_eq_false_iff_ne.mpr c3
  have c3b1 : ((l0.length : Int) != (l1.length : Int)) = true := bne_iff_ne.mpr c3
  have c3b2 : (l0.length == l1.length) = false := by first | simpa using c3 | (simp at c3 ⊢; omega)
  obtain rfl := Option.some.inj H
  go_enter Tryd.func38, Tryd.ntmps38
  go_wp2
  repeat (go_quiet (fail); try go_wp2)
  go_ret
  exact ⟨by first | rfl | (simp; done) | (simp [*]; done), by repeat (first | exact Drawn0.refl _ | apply Drawn0.step)⟩
end Go.Proofs.YtaaifdclojkdmaaDoor.MFr
