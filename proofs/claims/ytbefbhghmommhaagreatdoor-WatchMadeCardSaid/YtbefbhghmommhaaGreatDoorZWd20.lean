/- Texts of this claim, laid together by a program (wip/g/merge5.py): Hn, MWox82, MWox29, PuNet, PuNm, MWox33, MWox34, MWox30, MWox31, MWox32. -/
import Derived.Test.YtbefbhghmommhaaGreatDoorZWd13
import Derived.Test.YtbefbhghmommhaaGreatDoorZWd4
import Derived.Test.YtbefbhghmommhaaGreatDoorZWd19
import Derived.Test.YtbefbhghmommhaaGreatDoorZWd17
import Derived.Test.YtbefbhghmommhaaGreatDoorZWd15
import Derived.Test.YtbefbhghmommhaaGreatDoorZWd14
set_option linter.unusedVariables false
namespace Go.Proofs.YtbefbhghmommhaaGreatDoor.MWo
open Go.RowKit Go.Proofs.YtbefbhghmommhaaGreatDoorW.PrintWords
theorem cnt_take {L : List S71} {p : Int} {i : Nat} (hi : i < L.length) : cnt (L.take (i + 1)) p = cnt (L.take i) p + (if (rd_T71 L i).f0 = p ∨ (rd_T71 L i).f1 = p then 2 else 0) := by
 unfold cnt
 have hr : rd_T71 L (i : Int) = L[i] := by simp [rd_T71, List.getD_eq_getElem?_getD, hi]
 rw [hr, List.take_succ_eq_append_getElem hi, List.filter_append, List.length_append]
 by_cases c : L[i].f0 = p ∨ L[i].f1 = p
 ·rw [if_pos c, List.filter_cons_of_pos (by rcases c with c | c <;> simp [c])]
  simp
  omega
 ·rw [if_neg c, List.filter_cons_of_neg (by simp only [not_or] at c; simp [c.1, c.2])]
  simp
theorem ports_from (P : List S68) (L : List S71) (a a2 a3 a4 a5 a6 a7 a8 a9 a10 a11 a12 : Int) (hL : L.length ≤ 10) : ∀ (d i k : Nat), i + d = L.length → d < k →
  dr26_ports.l0 k a (cnt (L.take i) a) i P L a2 a3 a4 a5 a6 a7 a8 a9 a10 a11 a12 = some (cnt L a)
 | 0, i, k + 1, h, _ => by
  rw [dr26_ports.l0, if_neg (by omega), List.take_of_length_le (by omega)]
 | d + 1, i, k + 1, h, hk => by
  have hi : i < L.length := by omega
  have hb := cnt_b (L.take i) a
  have hl : (L.take i).length ≤ 10 := by rw [List.length_take]; omega
  have e2 : wrap64 (cnt (L.take i) a + 2) = cnt (L.take i) a + 2 := by unfold wrap64; omega
  have e1 : wrap64 ((i : Int) + 1) = ((i + 1 : Nat) : Int) := by unfold wrap64; omega
  have ih := ports_from P L a a2 a3 a4 a5 a6 a7 a8 a9 a10 a11 a12 hL d (i + 1) k (by omega) (by omega)
  rw [cnt_take hi] at ih
  rw [dr26_ports.l0, if_pos (by omega), if_pos (by omega), e1, e2]
  by_cases c0 : (rd_T71 L i).f0 = a
  ·rw [if_pos c0]
   rw [if_pos (.inl c0)] at ih
   exact ih
  ·rw [if_neg c0]
   by_cases c1 : (rd_T71 L i).f1 = a
   ·rw [if_pos c1]
    rw [if_pos (.inr c1)] at ih
    exact ih
   ·rw [if_neg c1]
    rw [if_neg (by simp only [not_or]; exact ⟨c0, c1⟩), Int.add_zero] at ih
    exact ih
theorem ports_cnt (P : List S68) (L : List S71) (a : Int) (a2 a3 a4 a5 a6 a7 a8 a9 a10 a11 a12 : Int) (hL : L.length ≤ 10) : dr26_ports.f 100 P L a2 a3 a4 a5 a6 a7 a8 a9 a10 a11 a12 a = some (cnt L a) :=
 ports_from P L a a2 a3 a4 a5 a6 a7 a8 a9 a10 a11 a12 hL L.length 0 100 (by omega) (by omega)
end Go.Proofs.YtbefbhghmommhaaGreatDoor.MWo
namespace Go.Proofs.YtbefbhghmommhaaGreatDoor.MWo
open Go.RowKit Go.Proofs.YtbefbhghmommhaaGreatDoorW.PrintWords Go.Proofs.YtbefbhghmommhaaGreatDoorW.PrintLast Go.Proofs.YtbefbhghmommhaaGreatDoorW.PrintMore
attribute [local go_sem] mp_u32s mp_u32m mp_u8s mp_u8m max2_int min2_int max_two min_two max_three min_three max_four min_four
set_option linter.unusedVariables false
set_option linter.unusedSimpArgs false
def dr26_Made.f (a0 : Int) : Option (List S68 × List S71 × Int × Int × Int × Int × Int × Int × Int × Int × Int × Int × Int) :=
 (dr5_Edge.f (madeNet (1 + a0 % 65536 % 4).toNat (a0 % 65536 / 4 % 4).toNat).1 (madeNet (1 + a0 % 65536 % 4).toNat (a0 % 65536 / 4 % 4).toNat).2 (20000 + 1000 * (a0 % 65536 / 16 % 8)) 60 100 0 (20 * (a0 % 65536 / 128 % 8)) 300000
   ((((1 + a0 % 65536 % 4).toNat : Int) - 1) * (a0 % 65536 / 1024 % 2 + 1) + 1 + a0 % 65536 / 2048 % 4) (a0 % 65536 / 1024 % 2) (((1 + a0 % 65536 % 4).toNat : Int) * (a0 % 65536 / 1024 % 2 + 1) + 2 + a0 % 65536 / 8192 % 2) (((1 + a0 % 65536 % 4).toNat : Int) * (a0 % 65536 / 1024 % 2 + 1) + 2) 12).bind fun e =>
  if 0 ≤ e ∧ e ≤ 1000000 then
   some ((madeNet (1 + a0 % 65536 % 4).toNat (a0 % 65536 / 4 % 4).toNat).1, (madeNet (1 + a0 % 65536 % 4).toNat (a0 % 65536 / 4 % 4).toNat).2, 20000 + 1000 * (a0 % 65536 / 16 % 8), 60, 100, 3 * e, 20 * (a0 % 65536 / 128 % 8), 300000,
    (((1 + a0 % 65536 % 4).toNat : Int) - 1) * (a0 % 65536 / 1024 % 2 + 1) + 1 + a0 % 65536 / 2048 % 4, a0 % 65536 / 1024 % 2, ((1 + a0 % 65536 % 4).toNat : Int) * (a0 % 65536 / 1024 % 2 + 1) + 2 + a0 % 65536 / 8192 % 2, ((1 + a0 % 65536 % 4).toNat : Int) * (a0 % 65536 / 1024 % 2 + 1) + 2, 12)
  else none
theorem dr26_Made.calls (a0 : Int) (r1 : List S68) (r2 : List S71) (r3 r4 r5 r6 r7 r8 r9 r10 r11 r12 r13 : Int) (w : World) (h : dr26_Made.f a0 = some (r1, r2, r3, r4, r5, r6, r7, r8, r9, r10, r11, r12, r13)) :
  Calls Tryz.prog 13 #[.int .i64 a0] w fun e w' => ∃ v0 v1, e = .returned (.agg #[v0, v1, .int .i64 r3, .int .i64 r4, .int .i64 r5, .int .i64 r6, .int .i64 r7, .int .i64 r8, .int .i64 r9, .int .i64 r10, .int .i64 r11, .int .i64 r12, .int .i64 r13]) ∧ Kd.R k68 68 w' w.heap.size (fun _ => True) v0 r1 ∧ Kd.R k71 71 w' w.heap.size (fun _ => True) v1 r2 ∧ Below w.heap.size w w' := by
 unfold dr26_Made.f at h
 obtain ⟨e, he, h⟩ := bS h
 split at h
 ·rename_i hb
  simp only [Option.some.injEq, Prod.mk.injEq] at h
  obtain ⟨rfl, rfl, rfl, rfl, rfl, rfl, rfl, rfl, rfl, rfl, rfl, rfl, rfl⟩ := h
  exact made_walk a0 (a0 % 65536) _ _ _ _ _ (1 + a0 % 65536 % 4).toNat (a0 % 65536 / 4 % 4).toNat w rfl (by omega) (by omega) rfl rfl rfl rfl rfl e he hb.1 hb.2 ports_cnt
 ·cases h
def plan_Right.f (l0_0 : List S68) (l0_1 : List S71) (a0_2 a0_3 a0_4 a0_5 a0_6 a0_7 a0_8 a0_9 a0_10 a0_11 a0_12 : Int) : Option Bool := if netB l0_0 l0_1 = true then (plan_Dists.f 100 l0_0 l0_1 a0_2 a0_3 a0_4 a0_5 a0_6 a0_7 a0_8 a0_9 a0_10 a0_11 a0_12 0).bind fun d => (slices_Index_int_int.f 100 d (-1)).bind fun i => if i = -1 then some true else none else none
theorem plan_Right.calls (A0_0 : Option Addr) (c0_0 : Nat) (l0_0 : List S68) (A0_1 : Option Addr) (c0_1 : Nat) (l0_1 : List S71) (a0_2 a0_3 a0_4 a0_5 a0_6 a0_7 a0_8 a0_9 a0_10 a0_11 a0_12 : Int) (r : Bool) (w : World) (hr0_0 : Kd.C k68 w A0_0 l0_0.length l0_0) (hc0_0 : l0_0.length ≤ c0_0) (hr0_1 : Kd.C k71 w A0_1 l0_1.length l0_1) (hc0_1 : l0_1.length ≤ c0_1) (h : plan_Right.f l0_0 l0_1 a0_2 a0_3 a0_4 a0_5 a0_6 a0_7 a0_8 a0_9 a0_10 a0_11 a0_12 = some r) :
  Calls Tryz.prog 64 #[.agg #[.slice A0_0 l0_0.length c0_0, .slice A0_1 l0_1.length c0_1, .int .i64 a0_2, .int .i64 a0_3, .int .i64 a0_4, .int .i64 a0_5, .int .i64 a0_6, .int .i64 a0_7, .int .i64 a0_8, .int .i64 a0_9, .int .i64 a0_10, .int .i64 a0_11, .int .i64 a0_12]] w fun e w' => e = .returned (.bool r) ∧ Below w.heap.size w w' := by
 unfold plan_Right.f at h
 split at h
 ·rename_i hn
  obtain ⟨d, hd, h⟩ := bS h
  obtain ⟨i, hi, h⟩ := bS h
  split at h
  ·rename_i he
   subst he
   injection h with h
   subst h
   exact right_yes A0_0 c0_0 l0_0 A0_1 c0_1 l0_1 a0_2 a0_3 a0_4 a0_5 a0_6 a0_7 a0_8 a0_9 a0_10 a0_11 a0_12 d w hr0_0 hc0_0 hr0_1 hc0_1 (netB_ok hn) hd hi
  ·cases h
 ·cases h
end Go.Proofs.YtbefbhghmommhaaGreatDoor.MWo
set_option linter.unusedVariables false
namespace Go.Proofs.YtbefbhghmommhaaGreatDoor.MWo
open Go.RowKit Go.Proofs.YtbefbhghmommhaaGreatDoorW.PrintWords
theorem made_cases {X : Nat → Nat → Prop} (h : X 1 0 ∧ X 1 1 ∧ X 1 2 ∧ X 1 3 ∧ X 2 0 ∧ X 2 1 ∧ X 2 2 ∧ X 2 3 ∧ X 3 0 ∧ X 3 1 ∧ X 3 2 ∧ X 3 3 ∧ X 4 0 ∧ X 4 1 ∧ X 4 2 ∧ X 4 3) (q s : Nat) (h1 : 1 ≤ q) (h4 : q ≤ 4) (h3 : s ≤ 3) : X q s := by
 obtain ⟨a1, a2, a3, a4, b1, b2, b3, b4, c1, c2, c3, c4, d1, d2, d3, d4⟩ := h
 rcases (show q = 1 ∨ q = 2 ∨ q = 3 ∨ q = 4 by omega) with rfl | rfl | rfl | rfl <;> rcases (show s = 0 ∨ s = 1 ∨ s = 2 ∨ s = 3 by omega) with rfl | rfl | rfl | rfl <;> assumption
theorem right_made (a2 a3 a4 a5 a6 a7 a8 a9 a10 a11 a12 : Int) (q s : Nat) (h1 : 1 ≤ q) (h4 : q ≤ 4) (h3 : s ≤ 3) : plan_Right.f (madeNet q s).1 (madeNet q s).2 a2 a3 a4 a5 a6 a7 a8 a9 a10 a11 a12 = some true := by
 refine made_cases (X := fun q s => plan_Right.f (madeNet q s).1 (madeNet q s).2 a2 a3 a4 a5 a6 a7 a8 a9 a10 a11 a12 = some true) ⟨?_, ?_, ?_, ?_, ?_, ?_, ?_, ?_, ?_, ?_, ?_, ?_, ?_, ?_, ?_, ?_⟩ q s h1 h4 h3 <;> kernel_rfl
theorem good_made (a2 a3 a4 a5 a6 a7 a8 a9 a10 a11 a12 : Int) (q s : Nat) (h1 : 1 ≤ q) (h4 : q ≤ 4) (h3 : s ≤ 3) : dr5_Good.f (madeNet q s).1 (madeNet q s).2 a2 a3 a4 a5 a6 a7 a8 a9 a10 a11 a12 0 = some true := by
 refine made_cases (X := fun q s => dr5_Good.f (madeNet q s).1 (madeNet q s).2 a2 a3 a4 a5 a6 a7 a8 a9 a10 a11 a12 0 = some true) ⟨?_, ?_, ?_, ?_, ?_, ?_, ?_, ?_, ?_, ?_, ?_, ?_, ?_, ?_, ?_, ?_⟩ q s h1 h4 h3 <;> kernel_rfl
set_option linter.unusedVariables false
set_option linter.unusedSimpArgs false
def up (d : Int) : Int := (d + 999999) / 1000000
theorem ceil_eq {d : Int} (h0 : 0 ≤ d) (h1 : d ≤ 1000000000000) : dr1_Ceil.f d 1000000 = some (up d, true) := by
 unfold dr1_Ceil.f up
 rw [if_neg (by omega), if_neg (by omega), Int.tmod_eq_emod_of_nonneg h0, Int.tdiv_eq_ediv_of_nonneg h0]
 have e : wrap64 (d / 1000000) = d / 1000000 := by unfold wrap64; omega
 rw [e]
 by_cases h : d % 1000000 > 0
 ·rw [if_pos h, show wrap64 (d / 1000000 + 1) = d / 1000000 + 1 by unfold wrap64; omega, show d / 1000000 + 1 = (d + 999999) / 1000000 by omega]
 ·rw [if_neg h, show d / 1000000 = (d + 999999) / 1000000 by omega]
theorem up_eq {d : Int} (h0 : 0 ≤ d) (h1 : d ≤ 1000000000000) : dr5_up.f d = some (up d) := by
 unfold dr5_up.f; rw [ceil_eq h0 h1]; rfl
def Eg (dr cyc : Int) : Int := up (2 * dr * cyc) + 1
theorem dc_bd {dr cyc : Int} (h1 : 0 ≤ dr) (h2 : dr ≤ 140) (h3 : 20000 ≤ cyc) (h4 : cyc ≤ 27000) : 0 ≤ dr * cyc ∧ dr * cyc ≤ 3780000 ∧ 2 * dr * cyc = 2 * (dr * cyc) := by
 refine ⟨Int.mul_nonneg h1 (by omega), ?_, Int.mul_assoc 2 dr cyc⟩
 calc dr * cyc ≤ 140 * cyc := Int.mul_le_mul_of_nonneg_right h2 (by omega)
  _ ≤ 3780000 := by omega
theorem Eg_bd {dr cyc : Int} (h1 : 0 ≤ dr) (h2 : dr ≤ 140) (h3 : 20000 ≤ cyc) (h4 : cyc ≤ 27000) : 1 ≤ Eg dr cyc ∧ Eg dr cyc ≤ 9 := by
 have := dc_bd h1 h2 h3 h4
 unfold Eg up; omega
theorem edge_eq (P : List S68) (L : List S71) {a2 a3 a4 a5 a6 a7 a8 a9 a10 a11 a12 : Int} (h1 : 0 ≤ a6) (h2 : a6 ≤ 140) (h3 : 20000 ≤ a2) (h4 : a2 ≤ 27000) : dr5_edge.f P L a2 a3 a4 a5 a6 a7 a8 a9 a10 a11 a12 = some (Eg a6 a2) := by
 have hb := dc_bd h1 h2 h3 h4
 unfold dr5_edge.f
 rw [show wrap64 (2 * a6) = 2 * a6 by unfold wrap64; omega, show wrap64 (2 * a6 * a2) = 2 * a6 * a2 by unfold wrap64; omega, up_eq (by omega) (by omega)]
 simp only [Option.bind_some]
 have := Eg_bd h1 h2 h3 h4
 unfold Eg at *
 rw [show wrap64 (up (2 * a6 * a2) + 1) = up (2 * a6 * a2) + 1 by unfold wrap64; omega]
theorem out_eq (P : List S68) (L : List S71) {a2 a3 a4 a5 a6 a7 a8 a9 a10 a11 a12 : Int} (k : Nat) (h1 : 1000 ≤ a2) (h2 : a2 ≤ 1000000) (h3 : 0 ≤ a6) (h4 : a6 ≤ 500) (h5 : 0 ≤ a7) (h6 : a7 ≤ 400000) (h7 : 1 ≤ a8) (h8 : a8 ≤ 200) (h9 : 0 ≤ a9) (h10 : a9 ≤ 20) :
  dr5_out.f P L a2 a3 a4 a5 a6 a7 a8 a9 a10 a11 a12 = some 0 := if_pos ⟨h1, h2, h3, h4, h5, h6, h7, h8, h9, h10⟩
theorem Edge_eq (q s : Nat) {a2 a3 a4 a5 a6 a7 a8 a9 a10 a11 a12 : Int} (g1 : 1 ≤ q) (g4 : q ≤ 4) (g3 : s ≤ 3) (h1 : 0 ≤ a6) (h2 : a6 ≤ 140) (h3 : 20000 ≤ a2) (h4 : a2 ≤ 27000) (h5 : 0 ≤ a7) (h6 : a7 ≤ 400000) (h7 : 1 ≤ a8) (h8 : a8 ≤ 200) (h9 : 0 ≤ a9) (h10 : a9 ≤ 20) :
  dr5_Edge.f (madeNet q s).1 (madeNet q s).2 a2 a3 a4 a5 a6 a7 a8 a9 a10 a11 a12 = some (Eg a6 a2) := by
 unfold dr5_Edge.f dr5_ranged.f
 rw [good_made a2 a3 a4 a5 a6 a7 a8 a9 a10 a11 a12 q s g1 g4 g3]
 simp only [Option.bind_some, if_true]
 rw [show dr5_out.f (madeNet q s).1 (madeNet q s).2 a2 a3 a4 a5 a6 a7 a8 a9 a10 a11 a12 = some 0 from out_eq _ _ 96 (by omega) (by omega) h1 (by omega) h5 h6 h7 h8 h9 h10]
 simp only [Option.bind_some, beq_self_eq_true, if_true]
 rw [edge_eq _ _ h1 h2 h3 h4]
 rfl
end Go.Proofs.YtbefbhghmommhaaGreatDoor.MWo
namespace Go.Proofs.YtbefbhghmommhaaGreatDoor.MWo
open Go.RowKit Go.Proofs.YtbefbhghmommhaaGreatDoorW.PrintWords Go.Proofs.YtbefbhghmommhaaGreatDoorW.PrintLast Go.Proofs.YtbefbhghmommhaaGreatDoorW.PrintMore
attribute [local go_sem] mp_u32s mp_u32m mp_u8s mp_u8m max2_int min2_int max_two min_two max_three min_three max_four min_four
set_option linter.unusedVariables false
set_option linter.unusedSimpArgs false
def ticks_Ceil.f (a0 : Int) (a1 : Int) : Option (Int × Bool) := if a1 < 1 then (some (0, false)) else (if a1 = 0 then (none) else (if (Int.tmod a0 a1) > 0 then (some (wrap64 ((wrap64 (Int.tdiv a0 a1)) + 1), true)) else (some (wrap64 (Int.tdiv a0 a1), true))))
set_option maxHeartbeats 8000000 in
set_option maxRecDepth 100000 in
theorem ticks_Ceil.calls (a0 : Int) (a1 : Int) (r1 : Int) (r2 : Bool) (w : World) (h : ticks_Ceil.f a0 a1 = some (r1, r2)) :
  Calls Tryz.prog 89 #[.int .i64 a0, .int .i64 a1] w fun e w' => e = .returned (.tuple #[.int .i64 r1, .bool r2]) ∧ Drawn0 w w' := by
 have H : (if a1 < 1 then (some (0, false)) else (if a1 = 0 then (none) else (if (Int.tmod a0 a1) > 0 then (some (wrap64 ((wrap64 (Int.tdiv a0 a1)) + 1), true)) else (some (wrap64 (Int.tdiv a0 a1), true))))) = some (r1, r2) := h
 clear h
 by_cases c3 : a1 < 1
 ·rw [if_pos c3] at H
  have c3b0 : decide (a1 < 1) = true := dT c3
  clear c3
  simp only [Option.some.injEq, Prod.mk.injEq] at H
  obtain ⟨rfl, rfl⟩ := H
  go_enter Tryz.func89, Tryz.ntmps89
  go_wp2
  go_ret2
  exact ⟨sd, dn⟩
 ·rw [if_neg c3] at H
  have c3b0 : decide (a1 < 1) = false := dF c3
  clear c3
  by_cases c4 : a1 = 0
  ·rw [if_pos c4] at H
   exact absurd H (by simp)
  ·rw [if_neg c4] at H
   have c4b0 : (a1 == 0) = false := beq_eq_false_iff_ne.mpr c4
   have c4b1 : (a1 != 0) = true := bne_iff_ne.mpr c4
   by_cases c5 : (Int.tmod a0 a1) > 0
   ·rw [if_pos c5] at H
    have c5b0 : decide (0 < (Int.tmod a0 a1)) = true := dT c5
    clear c5
    simp only [Option.some.injEq, Prod.mk.injEq] at H
    obtain ⟨rfl, rfl⟩ := H
    go_enter Tryz.func89, Tryz.ntmps89
    go_wp2
    go_ret2
    exact ⟨sd, dn⟩
   ·rw [if_neg c5] at H
    have c5b0 : decide (0 < (Int.tmod a0 a1)) = false := dF c5
    clear c5
    simp only [Option.some.injEq, Prod.mk.injEq] at H
    obtain ⟨rfl, rfl⟩ := H
    go_enter Tryz.func89, Tryz.ntmps89
    go_wp2
    go_ret2
    exact ⟨sd, dn⟩
def bounds_part.f (a0 : Int) : Option (Int) := (ticks_Ceil.f a0 1000000).bind fun bt147 => (some bt147.1)
set_option maxHeartbeats 8000000 in
set_option maxRecDepth 100000 in
theorem bounds_part.calls (a0 : Int) (r : Int) (w : World) (h : bounds_part.f a0 = some r) :
  Calls Tryz.prog 80 #[.int .i64 a0] w fun e w' => e = .returned (.int .i64 r) ∧ Drawn0 w w' := by
 have H : ((ticks_Ceil.f a0 1000000).bind fun bt147 => (some bt147.1)) = some r := h
 clear h
 replace H := bS H
 obtain ⟨⟨t147, t148⟩, A20, H⟩ := H
 replace H : (some t147) = some r := H
 have A2 := am A20
 clear A20
 obtain rfl := Option.some.inj H
 go_enter Tryz.func80, Tryz.ntmps80
 go_wp2_with (first | ((with_reducible refine gate_callee (f := 89) rfl ?_); refine goesL_ (some 7) rfl rfl Tryz.func89 (by kernel_rfl) rfl #[.int .i64 a0, .int .i64 1000000] rfl lm ?_; (with_reducible refine (ticks_Ceil.calls a0 1000000 t147 t148 _ A2.out).mono ?_); rintro e w' ⟨rfl, ⟨nd, rfl⟩⟩; refine ⟨_, rfl, ?_⟩))
 go_ret
 exact ⟨sd, dn⟩
def bounds_first.l0 : Nat → Int → List Bool → Int → Int → Option (Int)
 | 0, _, _, _, _ => none
 | k + 1, x0, x7, x8, x9 => if x9 < x8 then (if 0 ≤ x9 then (if x9 < (x7.length : Int) then (if rdOf false x7 x9 = true then (bounds_first.l0 k x0 x7 x8 (wrap64 (x9 + 1))) else (some (wrap64 (x0 + x9)))) else (none)) else (none)) else (some 0)
def bounds_first.f (k : Nat) (a0 : Int) (l1 : List Bool) : Option (Int) := bounds_first.l0 k a0 l1 (l1.length : Int) 0
set_option maxHeartbeats 8000000 in
set_option maxRecDepth 100000 in
theorem bounds_first.calls (k : Nat) (a0 : Int) (A1 : Option Addr) (c1 : Nat) (l1 : List Bool) (r : Int) (w : World) (hr1 : Kd.C Kd.bool w A1 l1.length l1) (hc1 : l1.length ≤ c1) (h : bounds_first.f k a0 l1 = some r) :
  Calls Tryz.prog 78 #[.int .i64 a0, .slice A1 l1.length c1] w fun e w' => e = .returned (.int .i64 r) ∧ Drawn0 w w' := by
 have HR1 := am hr1
 have HC1 := am hc1
 clear hr1 hc1
 have H : (bounds_first.l0 k a0 l1 (l1.length : Int) 0) = some r := h
 clear h
 have H' := am H
 clear H
 go_enter Tryz.func78, Tryz.ntmps78
 go_wp2
 go_loopg [9] k (fun kq v9 w' => ∃ (x9_1 : Int), v9 = .int .i64 x9_1 ∧ Aside0 (bounds_first.l0 kq a0 l1 (l1.length : Int) x9_1 = some r) ∧ Aside0 (kq ≤ k) ∧ Drawn0 w w')
 case atStart => exact ⟨(0), bx, H', ⟨Nat.le_refl _⟩, dn⟩
 case round =>
  clear H'
  try clear c1
  try clear p2
  obtain ⟨x9_1, rfl, HA, HK1, ⟨m1, rfl⟩⟩ := hrel
  cases gk with
  | zero => exact absurd HA.out (by simp [bounds_first.l0])
  | succ k1 =>
   have H := HA.out
   clear HA
   simp only [bounds_first.l0] at H
   by_cases c3 : x9_1 < (l1.length : Int)
   ·rw [if_pos c3] at H
    have c3b0 : decide (x9_1 < (l1.length : Int)) = true := dT c3
    clear c3
    by_cases c4 : 0 ≤ x9_1
    ·rw [if_pos c4] at H
     have c4b0 : decide (0 ≤ x9_1) = true := dT c4
     clear c4
     by_cases c5 : x9_1 < (l1.length : Int)
     ·rw [if_pos c5] at H
      have c5b0 : decide (x9_1 < (l1.length : Int)) = true := dT c5
      clear c5
      obtain ⟨bq6, hbq6⟩ : ∃ b_ : Bool, b_ = (rdOf false l1 x9_1) := ⟨_, rfl⟩
      replace H : (if bq6 = true then (bounds_first.l0 k1 a0 l1 (l1.length : Int) (wrap64 (x9_1 + 1))) else (some (wrap64 (a0 + x9_1)))) = some r := by rw [← hbq6] at H; exact H
      have Nbq6 := am hbq6
      clear hbq6
      by_cases c7 : bq6 = true
      ·subst c7
       have H1 : (bounds_first.l0 k1 a0 l1 (l1.length : Int) (wrap64 (x9_1 + 1))) = some r := by rw [if_pos rfl] at H; exact H
       clear H
       have H := H1
       clear H1
       have H' := am H
       clear H
       have p136 : 0 ≤ (x9_1 : Int) := oT asm
       have q136 : x9_1 < (l1.length : Int) := oT asm
       obtain ⟨ad136, e136, hx136_0⟩ := Kd.at_bool HR1.out x9_1 p136 q136
       (try rw [← Nbq6.out] at hx136_0)
       cases e136
       replace p136 := eq_true p136
       replace q136 := eq_true q136
       go_wp2
       go_roundg k1
       case measure => have := HK1.out; omega
       case rel => exact ⟨(wrap64 (x9_1 + 1)), bx, H', ⟨by have := HK1.out; omega⟩, dn⟩
      ·replace c7 := Bool.eq_false_iff.mpr c7
       subst c7
       have H1 : (some (wrap64 (a0 + x9_1))) = some r := by rw [if_neg (show ¬ (false = true) by decide)] at H; exact H
       clear H
       have H := H1
       clear H1
       obtain rfl := Option.some.inj H
       have p136 : 0 ≤ (x9_1 : Int) := oT asm
       have q136 : x9_1 < (l1.length : Int) := oT asm
       obtain ⟨ad136, e136, hx136_0⟩ := Kd.at_bool HR1.out x9_1 p136 q136
       (try rw [← Nbq6.out] at hx136_0)
       cases e136
       replace p136 := eq_true p136
       replace q136 := eq_true q136
       go_wp2
       go_ret
       exact ⟨sd, dn⟩
     ·rw [if_neg c5] at H
      exact absurd H (by simp)
    ·rw [if_neg c4] at H
     exact absurd H (by simp)
   ·rw [if_neg c3] at H
    have c3b0 : decide (x9_1 < (l1.length : Int)) = false := dF c3
    clear c3
    obtain rfl := Option.some.inj H
    go_wp2
    go_ret
    exact ⟨sd, dn⟩
def bounds_within.f (a0 : Int) (a1 : Int) (a2 : Int) : Option (Bool) := if a0 ≥ a1 then (some (decide (a0 ≤ a2))) else (some false)
set_option maxHeartbeats 8000000 in
set_option maxRecDepth 100000 in
theorem bounds_within.calls (a0 : Int) (a1 : Int) (a2 : Int) (r : Bool) (w : World) (h : bounds_within.f a0 a1 a2 = some r) :
  Calls Tryz.prog 79 #[.int .i64 a0, .int .i64 a1, .int .i64 a2] w fun e w' => e = .returned (.bool r) ∧ Drawn0 w w' := by
 have H : (if a0 ≥ a1 then (some (decide (a0 ≤ a2))) else (some false)) = some r := h
 clear h
 by_cases c4 : a0 ≥ a1
 ·rw [if_pos c4] at H
  have c4b0 : decide (a1 ≤ a0) = true := dT c4
  clear c4
  obtain rfl := Option.some.inj H
  go_enter Tryz.func79, Tryz.ntmps79
  go_wp2
  go_ret
  exact ⟨sd, dn⟩
 ·rw [if_neg c4] at H
  have c4b0 : decide (a1 ≤ a0) = false := dF c4
  clear c4
  obtain rfl := Option.some.inj H
  go_enter Tryz.func79, Tryz.ntmps79
  go_wp2
  go_ret
  exact ⟨sd, dn⟩
def bounds_ranged.f (k : Nat) (l0_0 : List (S68)) (l0_1 : List (S71)) (a0_2 : Int) (a0_3 : Int) (a0_4 : Int) (a0_5 : Int) (a0_6 : Int) (a0_7 : Int) (a0_8 : Int) (a0_9 : Int) (a0_10 : Int) (a0_11 : Int) (a0_12 : Int) : Option (Int) := (bounds_within.f a0_2 1000 1000000).bind fun t138 => ((bounds_within.f a0_6 0 500).bind fun t139 => ((bounds_within.f a0_7 0 400000).bind fun t140 => ((bounds_within.f a0_8 1 200).bind fun t141 => ((bounds_within.f a0_9 0 20).bind fun t142 => ((bounds_first.f k 1 (([t138, t139, t140, t141, t142] : List Bool))).bind fun t146 => (some t146))))))
def bounds_ranged.T1 : Bool × List (List Nat × List Nat) := (true, [([], []), ([0], [0]), ([1], [1]), ([], []), ([3], [3]), ([4, 2], [4]), ([], []), ([6], [6]), ([7, 5], [7]), ([], []), ([9], [9]), ([10, 8], [10]), ([], []), ([12], [12]), ([13, 11], [13]), ([2, 5, 8, 11, 14], [2, 5, 8, 11, 14]), ([15, 14], [15]), ([16, 16, 0, 1, 2, 3, 4, 5, 6, 7, 8, 9, 10, 11, 12, 13, 14, 15, 16], [16])])
def bounds_ranged.B1 : List Nat := [0, 1, 3, 0, 8, 31, 0, 64, 255, 0, 512, 2047, 0, 4096, 16383, 32767, 65535, 131071]
theorem bounds_ranged.tab1 : rtab .any (opsOf Tryz.f65 1) = bounds_ranged.T1 := by kernel_rfl
theorem bounds_ranged.bits1 : waitsOk bounds_ranged.T1.2 bounds_ranged.B1 = true := by kernel_rfl
set_option maxHeartbeats 8000000 in
set_option maxRecDepth 100000 in
theorem bounds_ranged.calls (k : Nat) (A0_0 : Option Addr) (c0_0 : Nat) (l0_0 : List (S68)) (A0_1 : Option Addr) (c0_1 : Nat) (l0_1 : List (S71)) (a0_2 : Int) (a0_3 : Int) (a0_4 : Int) (a0_5 : Int) (a0_6 : Int) (a0_7 : Int) (a0_8 : Int) (a0_9 : Int) (a0_10 : Int) (a0_11 : Int) (a0_12 : Int) (r : Int) (w : World) (hr0_0 : Kd.C k68 w A0_0 l0_0.length l0_0) (hc0_0 : l0_0.length ≤ c0_0) (hr0_1 : Kd.C k71 w A0_1 l0_1.length l0_1) (hc0_1 : l0_1.length ≤ c0_1) (h : bounds_ranged.f k l0_0 l0_1 a0_2 a0_3 a0_4 a0_5 a0_6 a0_7 a0_8 a0_9 a0_10 a0_11 a0_12 = some r) :
  Calls Tryz.prog 65 #[.agg #[.slice A0_0 l0_0.length c0_0, .slice A0_1 l0_1.length c0_1, .int .i64 a0_2, .int .i64 a0_3, .int .i64 a0_4, .int .i64 a0_5, .int .i64 a0_6, .int .i64 a0_7, .int .i64 a0_8, .int .i64 a0_9, .int .i64 a0_10, .int .i64 a0_11, .int .i64 a0_12]] w fun e w' => e = .returned (.int .i64 r) ∧ Below w.heap.size w w' := by
 have hu25 := Tryz.underlying25
 have HR0_0 := am hr0_0
 have HC0_0 := am hc0_0
 clear hr0_0 hc0_0
 have HR0_1 := am hr0_1
 have HC0_1 := am hc0_1
 clear hr0_1 hc0_1
 have HB := am (Below.refl w.heap.size w)
 have H : ((bounds_within.f a0_2 1000 1000000).bind fun t138 => ((bounds_within.f a0_6 0 500).bind fun t139 => ((bounds_within.f a0_7 0 400000).bind fun t140 => ((bounds_within.f a0_8 1 200).bind fun t141 => ((bounds_within.f a0_9 0 20).bind fun t142 => ((bounds_first.f k 1 (([t138, t139, t140, t141, t142] : List Bool))).bind fun t146 => (some t146))))))) = some r := h
 clear h
 replace H := bS H
 obtain ⟨t138, A20, H⟩ := H
 replace H : ((bounds_within.f a0_6 0 500).bind fun t139 => ((bounds_within.f a0_7 0 400000).bind fun t140 => ((bounds_within.f a0_8 1 200).bind fun t141 => ((bounds_within.f a0_9 0 20).bind fun t142 => ((bounds_first.f k 1 (([t138, t139, t140, t141, t142] : List Bool))).bind fun t146 => (some t146)))))) = some r := H
 have A2 := am A20
 clear A20
 replace H := bS H
 obtain ⟨t139, A30, H⟩ := H
 replace H : ((bounds_within.f a0_7 0 400000).bind fun t140 => ((bounds_within.f a0_8 1 200).bind fun t141 => ((bounds_within.f a0_9 0 20).bind fun t142 => ((bounds_first.f k 1 (([t138, t139, t140, t141, t142] : List Bool))).bind fun t146 => (some t146))))) = some r := H
 have A3 := am A30
 clear A30
 replace H := bS H
 obtain ⟨t140, A40, H⟩ := H
 replace H : ((bounds_within.f a0_8 1 200).bind fun t141 => ((bounds_within.f a0_9 0 20).bind fun t142 => ((bounds_first.f k 1 (([t138, t139, t140, t141, t142] : List Bool))).bind fun t146 => (some t146)))) = some r := H
 have A4 := am A40
 clear A40
 replace H := bS H
 obtain ⟨t141, A50, H⟩ := H
 replace H : ((bounds_within.f a0_9 0 20).bind fun t142 => ((bounds_first.f k 1 (([t138, t139, t140, t141, t142] : List Bool))).bind fun t146 => (some t146))) = some r := H
 have A5 := am A50
 clear A50
 replace H := bS H
 obtain ⟨t142, A60, H⟩ := H
 replace H : ((bounds_first.f k 1 (([t138, t139, t140, t141, t142] : List Bool))).bind fun t146 => (some t146)) = some r := H
 have A6 := am A60
 clear A60
 obtain ⟨y143, hy143⟩ : ∃ y_ : List Bool, y_ = (([t138, t139, t140, t141, t142] : List Bool)) := ⟨_, rfl⟩
 replace H : ((bounds_first.f k 1 y143).bind fun t146 => (some t146)) = some r := by first | (rw [hy143]; with_reducible exact H) | (have H2_ := (Option.bind_some _ _).symm.trans H; rw [hy143]; with_reducible exact H2_) | (have H2_ := (Option.bind_some _ _).symm.trans H; with_reducible exact H2_) | with_reducible exact H | (rw [hy143]; exact H) | exact H
 have Ny143 := am hy143
 clear hy143
 replace H := bS H
 obtain ⟨t146, A70, H⟩ := H
 replace H : (some t146) = some r := H
 have A7 := am A70
 clear A70
 obtain rfl := Option.some.inj H
 go_enter Tryz.func65, Tryz.ntmps65
 try go_wp2_with (first | ((with_reducible refine gate_dst (N := 1) rfl ?_); refine bxe 1 #[.slice A0_0 l0_0.length c0_0, .slice A0_1 l0_1.length c0_1, .int .i64 a0_2, .int .i64 a0_3, .int .i64 a0_4, .int .i64 a0_5, .int .i64 a0_6, .int .i64 a0_7, .int .i64 a0_8, .int .i64 a0_9, .int .i64 a0_10, .int .i64 a0_11, .int .i64 a0_12] 25 ?_; intro gb137 hg w8 hbox hb; have n0_ := am (below_step bl0 hb); have n1_ := am (hbox); have n2_ := am (gw0 hg); have n3_ := am (gw0 hg); clear HB; have HB := n0_; have BK137 := n1_; have GW137 := n2_; have GE137 := n3_; clear n0_ n1_ n2_ n3_; clear hb hbox hg))
 have n0_ := am (blk_drew BK137.out)
 have n1_ := am (below_drew1 HB.out)
 clear BK137
 clear HB
 have BK137 := n0_
 have HB := n1_
 clear n0_ n1_
 refine start_ (n := 18) (S := fun w' => w'.cell? ⟨gb137, 0, none⟩ = some (.slice A0_0 l0_0.length c0_0) ∧ w'.cell? ⟨gb137, 1, none⟩ = some (.slice A0_1 l0_1.length c0_1) ∧ w'.cell? ⟨gb137, 2, none⟩ = some (.int .i64 a0_2) ∧ w'.cell? ⟨gb137, 3, none⟩ = some (.int .i64 a0_3) ∧ w'.cell? ⟨gb137, 4, none⟩ = some (.int .i64 a0_4) ∧ w'.cell? ⟨gb137, 5, none⟩ = some (.int .i64 a0_5) ∧ w'.cell? ⟨gb137, 6, none⟩ = some (.int .i64 a0_6) ∧ w'.cell? ⟨gb137, 7, none⟩ = some (.int .i64 a0_7) ∧ w'.cell? ⟨gb137, 8, none⟩ = some (.int .i64 a0_8) ∧ w'.cell? ⟨gb137, 9, none⟩ = some (.int .i64 a0_9) ∧ w'.cell? ⟨gb137, 10, none⟩ = some (.int .i64 a0_10) ∧ w'.cell? ⟨gb137, 11, none⟩ = some (.int .i64 a0_11) ∧ w'.cell? ⟨gb137, 12, none⟩ = some (.int .i64 a0_12)) (ds := []) #[false, false, false, false, false, false, false, false, false, false, false, false, false, false, false, false, false, false] (by kernel_rfl) rfl rfl (cellsK13 BK137.out) (fun hHeld => ?_); refine with_tabW bounds_ranged.tab1 bounds_ranged.bits1 (fun HT_ HW_ => ?_)
 generalize w8.drew = w9 at BK137 HB hHeld ⊢
 refine pv HT_ 0 3 ?_
 refine pv HT_ 3 6 ?_
 refine pv HT_ 6 9 ?_
 refine pv HT_ 9 12 ?_
 refine pv HT_ 12 15 ?_
 refine tw13 HT_ HW_ 1 4 ?_
 refine tw13 HT_ HW_ 4 7 ?_
 refine tw13 HT_ HW_ 7 10 ?_
 refine tw13 HT_ HW_ 10 13 ?_
 refine tw13 HT_ HW_ 13 16 ?_
 refine ov HT_ 2 5 (fun K hK => ?_)
 refine goes_ Tryz.func79 (by kernel_rfl) rfl #[.int .i64 a0_2, .int .i64 1000, .int .i64 1000000] (by rfl) rfl rfl lm ?_
 with_reducible refine (bounds_within.calls a0_2 1000 1000000 t138 _ A2.out).mono ?_
 rintro e w' ⟨rfl, ⟨nd, rfl⟩⟩
 refine ⟨_, rfl, ?_⟩
 refine hK.out _ _ (cellsK13 BK137.out) (fun hHeld => ?_)
 clear hK K
 refine norm_ (a' := ?_) ?_ ?_
 rotate_left
 ·show Act.put _ (some 5) _ = _
  simp only [Act.put, sAa, sBb, sCc, i64_w, i32_w]
  rfl
 refine ov HT_ 5 8 (fun K hK => ?_)
 refine goes_ Tryz.func79 (by kernel_rfl) rfl #[.int .i64 a0_6, .int .i64 0, .int .i64 500] (by rfl) rfl rfl lm ?_
 with_reducible refine (bounds_within.calls a0_6 0 500 t139 _ A3.out).mono ?_
 rintro e w' ⟨rfl, ⟨nd, rfl⟩⟩
 refine ⟨_, rfl, ?_⟩
 refine hK.out _ _ (cellsK13 BK137.out) (fun hHeld => ?_)
 clear hK K
 refine norm_ (a' := ?_) ?_ ?_
 rotate_left
 ·show Act.put _ (some 8) _ = _
  simp only [Act.put, sAa, sBb, sCc, i64_w, i32_w]
  rfl
 refine ov HT_ 8 11 (fun K hK => ?_)
 refine goes_ Tryz.func79 (by kernel_rfl) rfl #[.int .i64 a0_7, .int .i64 0, .int .i64 400000] (by rfl) rfl rfl lm ?_
 with_reducible refine (bounds_within.calls a0_7 0 400000 t140 _ A4.out).mono ?_
 rintro e w' ⟨rfl, ⟨nd, rfl⟩⟩
 refine ⟨_, rfl, ?_⟩
 refine hK.out _ _ (cellsK13 BK137.out) (fun hHeld => ?_)
 clear hK K
 refine norm_ (a' := ?_) ?_ ?_
 rotate_left
 ·show Act.put _ (some 11) _ = _
  simp only [Act.put, sAa, sBb, sCc, i64_w, i32_w]
  rfl
 refine ov HT_ 11 14 (fun K hK => ?_)
 refine goes_ Tryz.func79 (by kernel_rfl) rfl #[.int .i64 a0_8, .int .i64 1, .int .i64 200] (by rfl) rfl rfl lm ?_
 with_reducible refine (bounds_within.calls a0_8 1 200 t141 _ A5.out).mono ?_
 rintro e w' ⟨rfl, ⟨nd, rfl⟩⟩
 refine ⟨_, rfl, ?_⟩
 refine hK.out _ _ (cellsK13 BK137.out) (fun hHeld => ?_)
 clear hK K
 refine norm_ (a' := ?_) ?_ ?_
 rotate_left
 ·show Act.put _ (some 14) _ = _
  simp only [Act.put, sAa, sBb, sCc, i64_w, i32_w]
  rfl
 refine ov HT_ 14 17 (fun K hK => ?_)
 refine goes_ Tryz.func79 (by kernel_rfl) rfl #[.int .i64 a0_9, .int .i64 0, .int .i64 20] (by rfl) rfl rfl lm ?_
 with_reducible refine (bounds_within.calls a0_9 0 20 t142 _ A6.out).mono ?_
 rintro e w' ⟨rfl, ⟨nd, rfl⟩⟩
 refine ⟨_, rfl, ?_⟩
 refine hK.out _ _ (cellsK13 BK137.out) (fun hHeld => ?_)
 clear hK K
 refine norm_ (a' := ?_) ?_ ?_
 rotate_left
 ·show Act.put _ (some 17) _ = _
  simp only [Act.put, sAa, sBb, sCc, i64_w, i32_w]
  rfl
 refine ov HT_ 15 18 (fun K hK => ?_)
 refine Kd.R_lit_step Kd.bool _ 4 ?hg (N := 18) ?hd (xs := ([t138, t139, t140, t141, t142] : List Bool)) (inner := [.bool t138, .bool t139, .bool t140, .bool t141, .bool t142]) (ok := fun _ => True) (okp := fun _ => True) ?hr ?hp (fun _ hk => hk) trivial (Below.refl _ _) (Nat.le_refl _) (by simp) ?_; (case hd => rfl); (case hg => rfl); (case hr => first | (go_simp; done) | (go_simp; rfl)); (case hp => exact (Reps.one (show Kd.M Kd.bool _ _ _ t138 [.bool t138] from rfl) (Reps.one (show Kd.M Kd.bool _ _ _ t139 [.bool t139] from rfl) (Reps.one (show Kd.M Kd.bool _ _ _ t140 [.bool t140] from rfl) (Reps.one (show Kd.M Kd.bool _ _ _ t141 [.bool t141] from rfl) (Reps.one (show Kd.M Kd.bool _ _ _ t142 [.bool t142] from rfl) (Reps.none _ _)))))))
 intro v144 w10 ho11 hb hg_ hnew_
 clear hg_ hnew_
 (first | rw [← Ny143.out] at ho11 | (simp only [Int.reduceToNat] at ho11; rw [← Ny143.out] at ho11))
 have n0_ := am (Kd.R_lower ho11 (below_size (bl1 GE137)))
 have n1_ := am (blk_below (bk BK137) hb)
 have n2_ := am (below_step (bl1 GE137) hb)
 clear BK137
 clear HB
 have HO145 := n0_
 have BK137 := n1_
 have HB := n2_
 clear n0_ n1_ n2_
 clear hb ho11
 obtain ⟨Ao12, co12, eo12⟩ := Kd.R_slice HO145.out
 (first | subst eo12 | (injection eo12 with f1_ f2_ f3_; have f4_ := f1_.symm; have f5_ := f3_.symm; clear f1_ f2_ f3_; subst f4_; subst f5_))
 refine hK.out _ _ (cellsK13 BK137.out) (fun hHeld => ?_)
 clear hK K
 refine norm_ (a' := ?_) ?_ ?_
 rotate_left
 ·show Act.put _ (some 18) _ = _
  simp only [Act.put, sAa, sBb, sCc, i64_w, i32_w]
  rfl
 refine ov HT_ 16 19 (fun K hK => ?_)
 refine goes_ Tryz.func78 (by kernel_rfl) rfl #[.int .i64 1, .slice Ao12 y143.length co12] (by rfl) rfl rfl lm ?_
 with_reducible refine (bounds_first.calls k 1 _ _ y143 t146 _ ?side1 ?side2 A7.out).mono ?_
 (case side1 => exact kg (Kd.R_reads' HO145.out).2.2)
 (case side2 => exact (Kd.R_reads' HO145.out).2.1)
 rintro e w' ⟨rfl, ⟨nd, rfl⟩⟩
 refine ⟨_, rfl, ?_⟩
 refine hK.out _ _ (cellsK13 BK137.out) (fun hHeld => ?_)
 clear hK K
 refine norm_ (a' := ?_) ?_ ?_
 rotate_left
 ·show Act.put _ (some 19) _ = _
  simp only [Act.put, sAa, sBb, sCc, i64_w, i32_w]
  rfl
 refine pv HT_ 17 2 ?_
 refine done_ (done_of HT_.out (by kernel_rfl)) ?_
 try go_wp2
 go_ret
 exact ⟨ew, bl1 GE137⟩
end Go.Proofs.YtbefbhghmommhaaGreatDoor.MWo
