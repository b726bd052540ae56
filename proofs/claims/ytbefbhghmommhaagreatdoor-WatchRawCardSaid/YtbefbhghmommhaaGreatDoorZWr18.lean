/- Texts of this claim, laid together by a program (wip/g/merge5.py): HIa, HSg, MWox45, HEq, HAg, HIf, HSy, HAw. -/
import Derived.Test.YtbefbhghmommhaaGreatDoorZWr12
import Derived.Test.YtbefbhghmommhaaGreatDoorZWr16
import Derived.Test.YtbefbhghmommhaaGreatDoorZWr8
import Derived.Lib.Strings
import Derived.Lib.Slices
import Derived.Lib.Walk
import Derived.Test.YtbefbhghmommhaaGreatDoorZWr4
import Derived.Test.YtbefbhghmommhaaGreatDoorZWr17
import Derived.Test.YtbefbhghmommhaaGreatDoorZWr10
set_option linter.unusedVariables false
set_option linter.unusedSimpArgs false
set_option maxRecDepth 100000
namespace Go.Proofs.YtbefbhghmommhaaGreatDoor.MWo
open Go.RowKit Go.Proofs.YtbefbhghmommhaaGreatDoorW.PrintWords Go.Proofs.YtbefbhghmommhaaGreatDoorW.PrintLast Go.Proofs.YtbefbhghmommhaaGreatDoorW.PrintMore Go.Proofs.YtbefbhghmommhaaGreatDoor.Evl
def Gv (w : World) : Prop := w.cell? ⟨0, 0, none⟩ = some (.iface 144 (.agg #[.pointer (some ⟨1, 108, none⟩)]))
theorem Gv.below {w W : World} {k : Nat} (h : Gv w) (hb : Below w.heap.size w W) : Gv W := (hb.cell (World.block_lt_of_cell? w _ h)).trans h
set_option maxHeartbeats 4000000 in
theorem in_any (A0 : Option Addr) (c0 : Nat) (P : List S68) (A1 : Option Addr) (c1 : Nat) (Q : List S71) (a2 a3 a4 a5 a6 a7 a8 a9 a10 a11 a12 r1 r2 r3 r4 r5 r6 r7 x : Int) (b : Bool) (w : World) (h0 : Kd.C k68 w A0 P.length P) (h1 : P.length ≤ c0) (h2 : Kd.C k71 w A1 Q.length Q) (h3 : Q.length ≤ c1) (hP : P.length ≤ 1000) (hQ : Q.length ≤ 1000) (hG : Gv w) (hb : netsB P Q = b)
  (hr : bounds_ranged.f 100 P Q a2 a3 a4 a5 a6 a7 a8 a9 a10 a11 a12 = some x) (hk : b = true → x = 0 → bounds_Reckon.f P Q a2 a3 a4 a5 a6 a7 a8 a9 a10 a11 a12 = some (r1, r2, r3, r4, r5, r6, r7)) (hz : ¬ (b = true ∧ x = 0) → r1 = 0 ∧ r2 = 0 ∧ r3 = 0 ∧ r4 = 0 ∧ r5 = 0 ∧ r6 = 0 ∧ r7 = 0) :
  Calls Tryz.prog 51 #[.agg #[.slice A0 P.length c0, .slice A1 Q.length c1, .int .i64 a2, .int .i64 a3, .int .i64 a4, .int .i64 a5, .int .i64 a6, .int .i64 a7, .int .i64 a8, .int .i64 a9, .int .i64 a10, .int .i64 a11, .int .i64 a12]] w fun e w' => e = .returned (.agg #[.int .i64 r1, .int .i64 r2, .int .i64 r3, .int .i64 r4, .int .i64 r5, .int .i64 r6, .int .i64 r7]) ∧ Below w.heap.size w w' := by
 have H0 := am h0
 have H1 := am h1
 have H2 := am h2
 have H3 := am h3
 have HN := am (And.intro hP hQ)
 have HV := am hG
 have HT := am hb
 have HG := am hr
 have HK := am hk
 have HZr := am hz
 clear h0 h1 h2 h3 hP hQ hG hb hr hk hz
 have b1 := below_alloc (Below.refl w.heap.size w) (.cells #[.slice A0 P.length c0, .slice A1 Q.length c1, .int .i64 a2, .int .i64 a3, .int .i64 a4, .int .i64 a5, .int .i64 a6, .int .i64 a7, .int .i64 a8, .int .i64 a9, .int .i64 a10, .int .i64 a11, .int .i64 a12] 25)
 have b2 := below_alloc b1 (.cells #[.int .i64 0, .int .i64 0, .int .i64 0, .int .i64 0, .int .i64 0, .int .i64 0, .int .i64 0] 85)
 have hsz : (w.alloc (.cells #[.slice A0 P.length c0, .slice A1 Q.length c1, .int .i64 a2, .int .i64 a3, .int .i64 a4, .int .i64 a5, .int .i64 a6, .int .i64 a7, .int .i64 a8, .int .i64 a9, .int .i64 a10, .int .i64 a11, .int .i64 a12] 25)).heap.size = w.heap.size + 1 := Array.size_push _
 have HC : Aside0 (((w.alloc (.cells #[.slice A0 P.length c0, .slice A1 Q.length c1, .int .i64 a2, .int .i64 a3, .int .i64 a4, .int .i64 a5, .int .i64 a6, .int .i64 a7, .int .i64 a8, .int .i64 a9, .int .i64 a10, .int .i64 a11, .int .i64 a12] 25)).alloc (.cells #[.int .i64 0, .int .i64 0, .int .i64 0, .int .i64 0, .int .i64 0, .int .i64 0, .int .i64 0] 85)).heap[w.heap.size]? = some (.cells #[.slice A0 P.length c0, .slice A1 Q.length c1, .int .i64 a2, .int .i64 a3, .int .i64 a4, .int .i64 a5, .int .i64 a6, .int .i64 a7, .int .i64 a8, .int .i64 a9, .int .i64 a10, .int .i64 a11, .int .i64 a12] 25 (0, 0))) := ⟨((below_alloc (Below.refl _ _) _).block w.heap.size (blk_lt (heap_alloc_new w _))).trans (heap_alloc_new w _)⟩
 have HZ : Aside0 (((w.alloc (.cells #[.slice A0 P.length c0, .slice A1 Q.length c1, .int .i64 a2, .int .i64 a3, .int .i64 a4, .int .i64 a5, .int .i64 a6, .int .i64 a7, .int .i64 a8, .int .i64 a9, .int .i64 a10, .int .i64 a11, .int .i64 a12] 25)).alloc (.cells #[.int .i64 0, .int .i64 0, .int .i64 0, .int .i64 0, .int .i64 0, .int .i64 0, .int .i64 0] 85)).heap[w.heap.size + 1]? = some (.cells #[.int .i64 0, .int .i64 0, .int .i64 0, .int .i64 0, .int .i64 0, .int .i64 0, .int .i64 0] 85 (0, 0))) := ⟨by have h := heap_alloc_new (w.alloc (.cells #[.slice A0 P.length c0, .slice A1 Q.length c1, .int .i64 a2, .int .i64 a3, .int .i64 a4, .int .i64 a5, .int .i64 a6, .int .i64 a7, .int .i64 a8, .int .i64 a9, .int .i64 a10, .int .i64 a11, .int .i64 a12] 25)) (.cells #[.int .i64 0, .int .i64 0, .int .i64 0, .int .i64 0, .int .i64 0, .int .i64 0, .int .i64 0] 85); rwa [hsz] at h⟩
 have HB := am b2
 clear b1 b2 hsz
 go_enter Tryz.func51, Tryz.ntmps51
 go_upto_region 1 with fail
 generalize (w.alloc (.cells #[.slice A0 P.length c0, .slice A1 Q.length c1, .int .i64 a2, .int .i64 a3, .int .i64 a4, .int .i64 a5, .int .i64 a6, .int .i64 a7, .int .i64 a8, .int .i64 a9, .int .i64 a10, .int .i64 a11, .int .i64 a12] 25)).alloc (.cells #[.int .i64 0, .int .i64 0, .int .i64 0, .int .i64 0, .int .i64 0, .int .i64 0, .int .i64 0] 85) = w1 at *
 obtain ⟨x0, x1, x2, x3, x4, x5, x6, x7, x8, x9, x10, x11, x12⟩ := cellsK13 HC.out
 go_wp2_with fail
 clear x0 x1 x2 x3 x4 x5 x6 x7 x8 x9 x10 x11 x12
 refine (right_any A0 c0 P A1 c1 Q a2 a3 a4 a5 a6 a7 a8 a9 a10 a11 a12 w1 (Kd.C_below H0.out HB.out) H1.out (Kd.C_below H2.out HB.out) H3.out HN.out.1 HN.out.2 (Gv.below (k := 0) HV.out HB.out)).mono ?_
 rintro e w2 ⟨r, rfl, hi, hb⟩
 have hrb : r = b := by rw [← HT.out, Bool.eq_iff_iff, netsB_iff]; exact hi
 subst hrb
 clear hi
 have HB_ := am (below_step HB.out hb)
 have HC_ := am ((hb.block w.heap.size (blk_lt HC.out)).trans HC.out)
 have HZ_ := am ((hb.block (w.heap.size + 1) (blk_lt HZ.out)).trans HZ.out)
 clear HB HC HZ hb
 have HB := HB_
 have HC := HC_
 have HZ := HZ_
 clear HB_ HC_ HZ_
 obtain ⟨x0, x1, x2, x3, x4, x5, x6, x7, x8, x9, x10, x11, x12⟩ := cellsK13 HC.out
 rcases Bool.eq_false_or_eq_true r with e_ | e_
 rotate_left
 ·subst e_
  obtain ⟨rfl, rfl, rfl, rfl, rfl, rfl, rfl⟩ := HZr.out (fun h => by cases h.1)
  clear HK HZr HT
  have z0 : w2.cell? ⟨w.heap.size + 1, 0, none⟩ = some (.int .i64 0) := (blk_cell HZ.out 0).trans rfl
  have zf0 := blk_frozen HZ.out 0
  have z1 : w2.cell? ⟨w.heap.size + 1, 1, none⟩ = some (.int .i64 0) := (blk_cell HZ.out 1).trans rfl
  have zf1 := blk_frozen HZ.out 1
  have z2 : w2.cell? ⟨w.heap.size + 1, 2, none⟩ = some (.int .i64 0) := (blk_cell HZ.out 2).trans rfl
  have zf2 := blk_frozen HZ.out 2
  have z3 : w2.cell? ⟨w.heap.size + 1, 3, none⟩ = some (.int .i64 0) := (blk_cell HZ.out 3).trans rfl
  have zf3 := blk_frozen HZ.out 3
  have z4 : w2.cell? ⟨w.heap.size + 1, 4, none⟩ = some (.int .i64 0) := (blk_cell HZ.out 4).trans rfl
  have zf4 := blk_frozen HZ.out 4
  have z5 : w2.cell? ⟨w.heap.size + 1, 5, none⟩ = some (.int .i64 0) := (blk_cell HZ.out 5).trans rfl
  have zf5 := blk_frozen HZ.out 5
  have z6 : w2.cell? ⟨w.heap.size + 1, 6, none⟩ = some (.int .i64 0) := (blk_cell HZ.out 6).trans rfl
  have zf6 := blk_frozen HZ.out 6
  go_wp2_with fail
  refine bodyPost_ret (results_cell_row rfl _ _ (w.heap.size + 1) 85 #[.int .i64 0, .int .i64 0, .int .i64 0, .int .i64 0, .int .i64 0, .int .i64 0, .int .i64 0] (0, 0) _ rfl (by have h := (blk_set (blk_set (blk_set (blk_set (blk_set (blk_set (blk_set HZ.out 0 (.int .i64 0)) 1 (.int .i64 0)) 2 (.int .i64 0)) 3 (.int .i64 0)) 4 (.int .i64 0)) 5 (.int .i64 0)) 6 (.int .i64 0)); simpa using h) Tryz.underlying85 rfl (by kernel_rfl)) rfl ?_
  exact ⟨rfl, (((((((HB.out.setCell (p := ⟨w.heap.size + 1, 0, none⟩) (Nat.le_succ _) (.int .i64 0)).setCell (p := ⟨w.heap.size + 1, 1, none⟩) (Nat.le_succ _) (.int .i64 0)).setCell (p := ⟨w.heap.size + 1, 2, none⟩) (Nat.le_succ _) (.int .i64 0)).setCell (p := ⟨w.heap.size + 1, 3, none⟩) (Nat.le_succ _) (.int .i64 0)).setCell (p := ⟨w.heap.size + 1, 4, none⟩) (Nat.le_succ _) (.int .i64 0)).setCell (p := ⟨w.heap.size + 1, 5, none⟩) (Nat.le_succ _) (.int .i64 0)).setCell (p := ⟨w.heap.size + 1, 6, none⟩) (Nat.le_succ _) (.int .i64 0))⟩
 subst e_
 go_wp2_with fail
 clear x0 x1 x2 x3 x4 x5 x6 x7 x8 x9 x10 x11 x12
 refine (bounds_ranged.calls 100 A0 c0 P A1 c1 Q a2 a3 a4 a5 a6 a7 a8 a9 a10 a11 a12 _ w2 (Kd.C_below H0.out HB.out) H1.out (Kd.C_below H2.out HB.out) H3.out HG.out).mono ?_
 rintro e w3 ⟨rfl, hb⟩
 have HB_ := am (below_step HB.out hb)
 have HC_ := am ((hb.block w.heap.size (blk_lt HC.out)).trans HC.out)
 have HZ_ := am ((hb.block (w.heap.size + 1) (blk_lt HZ.out)).trans HZ.out)
 clear HB HC HZ hb
 have HB := HB_
 have HC := HC_
 have HZ := HZ_
 clear HB_ HC_ HZ_
 obtain ⟨x0, x1, x2, x3, x4, x5, x6, x7, x8, x9, x10, x11, x12⟩ := cellsK13 HC.out
 by_cases hx : x = 0
 rotate_left
 ·have hx1 : (x == 0) = false := beq_eq_false_iff_ne.mpr hx
  have hx2 : (x != 0) = true := by rw [bne, hx1]; rfl
  obtain ⟨rfl, rfl, rfl, rfl, rfl, rfl, rfl⟩ := HZr.out (fun h => hx h.2)
  clear HK HZr HT hx
  have z0 : w3.cell? ⟨w.heap.size + 1, 0, none⟩ = some (.int .i64 0) := (blk_cell HZ.out 0).trans rfl
  have zf0 := blk_frozen HZ.out 0
  have z1 : w3.cell? ⟨w.heap.size + 1, 1, none⟩ = some (.int .i64 0) := (blk_cell HZ.out 1).trans rfl
  have zf1 := blk_frozen HZ.out 1
  have z2 : w3.cell? ⟨w.heap.size + 1, 2, none⟩ = some (.int .i64 0) := (blk_cell HZ.out 2).trans rfl
  have zf2 := blk_frozen HZ.out 2
  have z3 : w3.cell? ⟨w.heap.size + 1, 3, none⟩ = some (.int .i64 0) := (blk_cell HZ.out 3).trans rfl
  have zf3 := blk_frozen HZ.out 3
  have z4 : w3.cell? ⟨w.heap.size + 1, 4, none⟩ = some (.int .i64 0) := (blk_cell HZ.out 4).trans rfl
  have zf4 := blk_frozen HZ.out 4
  have z5 : w3.cell? ⟨w.heap.size + 1, 5, none⟩ = some (.int .i64 0) := (blk_cell HZ.out 5).trans rfl
  have zf5 := blk_frozen HZ.out 5
  have z6 : w3.cell? ⟨w.heap.size + 1, 6, none⟩ = some (.int .i64 0) := (blk_cell HZ.out 6).trans rfl
  have zf6 := blk_frozen HZ.out 6
  go_wp2_with fail
  refine bodyPost_ret (results_cell_row rfl _ _ (w.heap.size + 1) 85 #[.int .i64 0, .int .i64 0, .int .i64 0, .int .i64 0, .int .i64 0, .int .i64 0, .int .i64 0] (0, 0) _ rfl (by have h := (blk_set (blk_set (blk_set (blk_set (blk_set (blk_set (blk_set HZ.out 0 (.int .i64 0)) 1 (.int .i64 0)) 2 (.int .i64 0)) 3 (.int .i64 0)) 4 (.int .i64 0)) 5 (.int .i64 0)) 6 (.int .i64 0)); simpa using h) Tryz.underlying85 rfl (by kernel_rfl)) rfl ?_
  exact ⟨rfl, (((((((HB.out.setCell (p := ⟨w.heap.size + 1, 0, none⟩) (Nat.le_succ _) (.int .i64 0)).setCell (p := ⟨w.heap.size + 1, 1, none⟩) (Nat.le_succ _) (.int .i64 0)).setCell (p := ⟨w.heap.size + 1, 2, none⟩) (Nat.le_succ _) (.int .i64 0)).setCell (p := ⟨w.heap.size + 1, 3, none⟩) (Nat.le_succ _) (.int .i64 0)).setCell (p := ⟨w.heap.size + 1, 4, none⟩) (Nat.le_succ _) (.int .i64 0)).setCell (p := ⟨w.heap.size + 1, 5, none⟩) (Nat.le_succ _) (.int .i64 0)).setCell (p := ⟨w.heap.size + 1, 6, none⟩) (Nat.le_succ _) (.int .i64 0))⟩
 subst hx
 have HK2 := am (HK.out (by first | exact rfl | exact trivial) (by first | exact rfl | exact trivial))
 clear HK HZr HT
 go_wp2_with fail
 clear x0 x1 x2 x3 x4 x5 x6 x7 x8 x9 x10 x11 x12
 refine (bounds_Reckon.calls A0 c0 P A1 c1 Q a2 a3 a4 a5 a6 a7 a8 a9 a10 a11 a12 _ _ _ _ _ _ _ w3 (Kd.C_below H0.out HB.out) H1.out (Kd.C_below H2.out HB.out) H3.out HK2.out).mono ?_
 rintro e w5 ⟨rfl, hb⟩
 have HB_ := am (below_step HB.out hb)
 have HC_ := am ((hb.block w.heap.size (blk_lt HC.out)).trans HC.out)
 have HZ_ := am ((hb.block (w.heap.size + 1) (blk_lt HZ.out)).trans HZ.out)
 clear HB HC HZ hb
 have HB := HB_
 have HC := HC_
 have HZ := HZ_
 clear HB_ HC_ HZ_
 have z0 : w5.cell? ⟨w.heap.size + 1, 0, none⟩ = some (.int .i64 0) := (blk_cell HZ.out 0).trans rfl
 have zf0 := blk_frozen HZ.out 0
 have z1 : w5.cell? ⟨w.heap.size + 1, 1, none⟩ = some (.int .i64 0) := (blk_cell HZ.out 1).trans rfl
 have zf1 := blk_frozen HZ.out 1
 have z2 : w5.cell? ⟨w.heap.size + 1, 2, none⟩ = some (.int .i64 0) := (blk_cell HZ.out 2).trans rfl
 have zf2 := blk_frozen HZ.out 2
 have z3 : w5.cell? ⟨w.heap.size + 1, 3, none⟩ = some (.int .i64 0) := (blk_cell HZ.out 3).trans rfl
 have zf3 := blk_frozen HZ.out 3
 have z4 : w5.cell? ⟨w.heap.size + 1, 4, none⟩ = some (.int .i64 0) := (blk_cell HZ.out 4).trans rfl
 have zf4 := blk_frozen HZ.out 4
 have z5 : w5.cell? ⟨w.heap.size + 1, 5, none⟩ = some (.int .i64 0) := (blk_cell HZ.out 5).trans rfl
 have zf5 := blk_frozen HZ.out 5
 have z6 : w5.cell? ⟨w.heap.size + 1, 6, none⟩ = some (.int .i64 0) := (blk_cell HZ.out 6).trans rfl
 have zf6 := blk_frozen HZ.out 6
 go_wp2_with fail
 refine bodyPost_ret (results_cell_row rfl _ _ (w.heap.size + 1) 85 #[.int .i64 r1, .int .i64 r2, .int .i64 r3, .int .i64 r4, .int .i64 r5, .int .i64 r6, .int .i64 r7] (0, 0) _ rfl (by have h := (blk_set (blk_set (blk_set (blk_set (blk_set (blk_set (blk_set HZ.out 0 (.int .i64 r1)) 1 (.int .i64 r2)) 2 (.int .i64 r3)) 3 (.int .i64 r4)) 4 (.int .i64 r5)) 5 (.int .i64 r6)) 6 (.int .i64 r7)); simpa using h) Tryz.underlying85 rfl (by kernel_rfl)) rfl ?_
 exact ⟨rfl, (((((((HB.out.setCell (p := ⟨w.heap.size + 1, 0, none⟩) (Nat.le_succ _) (.int .i64 r1)).setCell (p := ⟨w.heap.size + 1, 1, none⟩) (Nat.le_succ _) (.int .i64 r2)).setCell (p := ⟨w.heap.size + 1, 2, none⟩) (Nat.le_succ _) (.int .i64 r3)).setCell (p := ⟨w.heap.size + 1, 3, none⟩) (Nat.le_succ _) (.int .i64 r4)).setCell (p := ⟨w.heap.size + 1, 4, none⟩) (Nat.le_succ _) (.int .i64 r5)).setCell (p := ⟨w.heap.size + 1, 5, none⟩) (Nat.le_succ _) (.int .i64 r6)).setCell (p := ⟨w.heap.size + 1, 6, none⟩) (Nat.le_succ _) (.int .i64 r7))⟩
set_option maxHeartbeats 4000000 in
theorem gone_any (A0 : Option Addr) (c0 : Nat) (P : List S68) (A1 : Option Addr) (c1 : Nat) (Q : List S71) (a2 a3 a4 a5 a6 a7 a8 a9 a10 a11 a12 : Int) (w : World) (hN : NetAt w P A0 c0 Q A1 c1) (hG : Gv w) (hP : P.length ≤ 1000) (hQ : Q.length ≤ 1000) :
  Calls Tryz.prog 24 #[.agg #[.slice A0 P.length c0, .slice A1 Q.length c1, .int .i64 a2, .int .i64 a3, .int .i64 a4, .int .i64 a5, .int .i64 a6, .int .i64 a7, .int .i64 a8, .int .i64 a9, .int .i64 a10, .int .i64 a11, .int .i64 a12]] w fun e w' => e = .returned (.int .i64 (gnV P Q a2 a6 a8 a7 a9)) ∧ Below w.heap.size w w' := by
 have HN := am hN
 obtain ⟨x, r1, r2, r3, r4, r5, r6, r7, e1, e2, e3, e4, e5⟩ := nums P Q a2 a3 a4 a5 a6 a7 a8 a9 a10 a11 a12
 rw [← e5]
 have HV := am hG
 have HI := am (And.intro e1 (And.intro e2 e3))
 have HQ := am (And.intro hP hQ)
 clear hN hG hP hQ e1 e2 e3 e4 e5
 have BC := am (heap_alloc_new w (.cells #[.slice A0 P.length c0, .slice A1 Q.length c1, .int .i64 a2, .int .i64 a3, .int .i64 a4, .int .i64 a5, .int .i64 a6, .int .i64 a7, .int .i64 a8, .int .i64 a9, .int .i64 a10, .int .i64 a11, .int .i64 a12] 25))
 have HB := am (below_alloc (Below.refl w.heap.size w) (.cells #[.slice A0 P.length c0, .slice A1 Q.length c1, .int .i64 a2, .int .i64 a3, .int .i64 a4, .int .i64 a5, .int .i64 a6, .int .i64 a7, .int .i64 a8, .int .i64 a9, .int .i64 a10, .int .i64 a11, .int .i64 a12] 25))
 go_enter Tryz.func24, Tryz.ntmps24
 go_upto_region 1 with fail
 generalize w.alloc (.cells #[.slice A0 P.length c0, .slice A1 Q.length c1, .int .i64 a2, .int .i64 a3, .int .i64 a4, .int .i64 a5, .int .i64 a6, .int .i64 a7, .int .i64 a8, .int .i64 a9, .int .i64 a10, .int .i64 a11, .int .i64 a12] 25) = w1 at *
 obtain ⟨n0, n1, n2, n3, n4, n5, n6, n7, n8, n9, n10, n11, n12⟩ := cellsK13 BC.out
 go_wp2_with fail
 refine (in_any A0 c0 P A1 c1 Q a2 a3 a4 a5 a6 a7 a8 a9 a10 a11 a12 r1 r2 r3 r4 r5 r6 r7 x _ w1 (HN.out.below HB.out).p (HN.out.below HB.out).cp (HN.out.below HB.out).q (HN.out.below HB.out).cq HQ.out.1 HQ.out.2 (Gv.below (k := 0) HV.out HB.out) rfl HI.out.1 HI.out.2.1 HI.out.2.2).mono ?_
 rintro e w2 ⟨rfl, hb⟩
 have HB2 := am (below_step HB.out hb)
 clear hb n0 n1 n2 n3 n4 n5 n6 n7 n8 n9 n10 n11 n12
 have hfd6 : ∀ w_ : World, (Instr.field 85 (.agg #[.int .i64 r1, .int .i64 r2, .int .i64 r3, .int .i64 r4, .int .i64 r5, .int .i64 r6, .int .i64 r7]) 6).run Tryz.prog w_ = .ok (.int .i64 r7) w_ := fun _ => by kernel_rfl
 go_wp2_with fail
 go_ret
 exact ⟨rfl, HB2.out⟩
set_option maxHeartbeats 4000000 in
theorem near_any (A0 : Option Addr) (c0 : Nat) (P : List S68) (A1 : Option Addr) (c1 : Nat) (Q : List S71) (a2 a3 a4 a5 a6 a7 a8 a9 a10 a11 a12 : Int) (w : World) (hN : NetAt w P A0 c0 Q A1 c1) (hG : Gv w) (hP : P.length ≤ 1000) (hQ : Q.length ≤ 1000) :
  Calls Tryz.prog 33 #[.agg #[.slice A0 P.length c0, .slice A1 Q.length c1, .int .i64 a2, .int .i64 a3, .int .i64 a4, .int .i64 a5, .int .i64 a6, .int .i64 a7, .int .i64 a8, .int .i64 a9, .int .i64 a10, .int .i64 a11, .int .i64 a12]] w fun e w' => e = .returned (.int .i64 (nrV P Q a2 a6 a8 a7 a9)) ∧ Below w.heap.size w w' := by
 have HN := am hN
 obtain ⟨x, r1, r2, r3, r4, r5, r6, r7, e1, e2, e3, e4, e5⟩ := nums P Q a2 a3 a4 a5 a6 a7 a8 a9 a10 a11 a12
 rw [← e4]
 have HV := am hG
 have HI := am (And.intro e1 (And.intro e2 e3))
 have HQ := am (And.intro hP hQ)
 clear hN hG hP hQ e1 e2 e3 e4 e5
 have BC := am (heap_alloc_new w (.cells #[.slice A0 P.length c0, .slice A1 Q.length c1, .int .i64 a2, .int .i64 a3, .int .i64 a4, .int .i64 a5, .int .i64 a6, .int .i64 a7, .int .i64 a8, .int .i64 a9, .int .i64 a10, .int .i64 a11, .int .i64 a12] 25))
 have HB := am (below_alloc (Below.refl w.heap.size w) (.cells #[.slice A0 P.length c0, .slice A1 Q.length c1, .int .i64 a2, .int .i64 a3, .int .i64 a4, .int .i64 a5, .int .i64 a6, .int .i64 a7, .int .i64 a8, .int .i64 a9, .int .i64 a10, .int .i64 a11, .int .i64 a12] 25))
 go_enter Tryz.func33, Tryz.ntmps33
 go_upto_region 1 with fail
 generalize w.alloc (.cells #[.slice A0 P.length c0, .slice A1 Q.length c1, .int .i64 a2, .int .i64 a3, .int .i64 a4, .int .i64 a5, .int .i64 a6, .int .i64 a7, .int .i64 a8, .int .i64 a9, .int .i64 a10, .int .i64 a11, .int .i64 a12] 25) = w1 at *
 obtain ⟨n0, n1, n2, n3, n4, n5, n6, n7, n8, n9, n10, n11, n12⟩ := cellsK13 BC.out
 go_wp2_with fail
 refine (in_any A0 c0 P A1 c1 Q a2 a3 a4 a5 a6 a7 a8 a9 a10 a11 a12 r1 r2 r3 r4 r5 r6 r7 x _ w1 (HN.out.below HB.out).p (HN.out.below HB.out).cp (HN.out.below HB.out).q (HN.out.below HB.out).cq HQ.out.1 HQ.out.2 (Gv.below (k := 0) HV.out HB.out) rfl HI.out.1 HI.out.2.1 HI.out.2.2).mono ?_
 rintro e w2 ⟨rfl, hb⟩
 have HB2 := am (below_step HB.out hb)
 clear hb n0 n1 n2 n3 n4 n5 n6 n7 n8 n9 n10 n11 n12
 have hfd1 : ∀ w_ : World, (Instr.field 85 (.agg #[.int .i64 r1, .int .i64 r2, .int .i64 r3, .int .i64 r4, .int .i64 r5, .int .i64 r6, .int .i64 r7]) 1).run Tryz.prog w_ = .ok (.int .i64 r2) w_ := fun _ => by kernel_rfl
 go_wp2_with fail
 go_ret
 exact ⟨rfl, HB2.out⟩
set_option linter.unusedVariables false
set_option linter.unusedSimpArgs false
set_option maxRecDepth 100000
open Go.RowKit Go.Proofs.YtbefbhghmommhaaGreatDoorW.PrintWords Go.Proofs.YtbefbhghmommhaaGreatDoorW.PrintLast Go.Proofs.YtbefbhghmommhaaGreatDoorW.PrintMore
def timeB (x : Int) : Bool := decide (-1099511627776 ≤ x) && decide (x ≤ 1099511627776)
theorem time_walk (x : Int) (w : World) : Calls Tryz.prog 58 #[.int .i64 x] w fun e w' => e = .returned (.bool (timeB x)) ∧ w' = w := by
 go_enter Tryz.func58, Tryz.ntmps58
 by_cases h : -1099511627776 ≤ x
 ·by_cases h2 : x ≤ 1099511627776
  ·go_wp2
   go_ret
   exact ⟨by simp [timeB, h, h2], rfl⟩
  ·go_wp2
   go_ret
   exact ⟨by simp [timeB, h, h2], rfl⟩
 ·go_wp2
  go_ret
  exact ⟨by simp [timeB]; omega, rfl⟩
theorem notime_walk (x : Int) (w : World) : Calls Tryz.prog 57 #[.int .i64 x] w fun e w' => e = .returned (.bool (!timeB x)) ∧ w' = w := by
 have hT := time_walk x w
 generalize timeB x = b at hT ⊢
 go_enter Tryz.func57, Tryz.ntmps57
 go_wp2_with fail
 refine hT.mono ?_
 rintro e w1 ⟨rfl, rfl⟩
 go_wp2_with fail
 go_ret
 exact ⟨rfl, rfl⟩
theorem enter_sp (args : Array Value) (w : World) : (callFunc 57 args).run Tryz.prog w = .ok (.enter 57 args) w := entersT Tryz.func57 (by decide +kernel) rfl args w
def fstI {α : Type} (p : α → Bool) (l : List α) : Int := match l.findIdx? p with | some i => (i : Int) | none => -1
theorem fstI_hit {α : Type} {p : α → Bool} {l : List α} {i : Nat} (hi : i < l.length) (hp : p l[i] = true) (hb : ∀ (j : Nat) (h : j < l.length), j < i → p l[j] = false) : fstI p l = i := by
 have : l.findIdx? p = some i := by
  rw [List.findIdx?_eq_some_iff_getElem]
  exact ⟨hi, hp, fun j hj => by simp [hb j (by omega) hj]⟩
 unfold fstI
 rw [this]
theorem fstI_miss {α : Type} {p : α → Bool} {l : List α} (hb : ∀ (j : Nat) (h : j < l.length), p l[j] = false) : fstI p l = -1 := by
 have : l.findIdx? p = none := by
  rw [List.findIdx?_eq_none_iff]
  intro x hx
  obtain ⟨j, hj, rfl⟩ := List.mem_iff_getElem.1 hx
  exact hb j hj
 unfold fstI
 rw [this]
theorem fstI_any {α : Type} (p : α → Bool) (l : List α) : decide (0 ≤ fstI p l) = l.any p := by
 unfold fstI
 cases h : l.findIdx? p with
 | none =>
  rw [List.findIdx?_eq_none_iff] at h
  simp only [show decide ((0 : Int) ≤ -1) = false by decide]
  symm
  rw [List.any_eq_false]
  intro x hx
  simp [h x hx]
 | some i =>
  rw [List.findIdx?_eq_some_iff_getElem] at h
  obtain ⟨hi, hp, _⟩ := h
  simp only [show decide ((0 : Int) ≤ (i : Int)) = true from dT (by omega)]
  symm
  rw [List.any_eq_true]
  exact ⟨_, List.getElem_mem hi, hp⟩
theorem at_l {w : World} {A : Option Addr} {l : List Int} (h : Kd.C (Kd.int .i64) w A l.length l) {i : Nat} (hi : i < l.length) : ∃ ad, A = some ad ∧ w.cell? (ad.add i) = some (.int .i64 l[i]) := by
 obtain ⟨ad, e, hx⟩ := Kd.at_int h (i : Int) (by omega) (by omega)
 exact ⟨ad, e, by simpa [rd, hi] using hx⟩
set_option maxHeartbeats 1000000 in
theorem index64 (A0 : Option Addr) (c0 : Nat) (l : List Int) (w : World) (hr : Kd.C (Kd.int .i64) w A0 l.length l) (hl : l.length ≤ 1000000) :
  Calls Tryz.prog 73 #[.slice A0 l.length c0, .func (.func 57) #[] #[]] w fun e w' => e = .returned (.int .i64 (fstI (fun x => !timeB x) l)) ∧ w' = w := by
 have HR := am hr
 have eg := enter_sp
 clear hr
 go_enter Tryz.func73, Tryz.ntmps73
 go_wp2_with fail
 go_loopg [5, 8] (l.length + 1) (fun kq _ v8 w' => ∃ i : Nat, v8 = .int .i64 i ∧ Aside0 (kq + i = l.length + 1) ∧ Aside0 (w' = w) ∧ Aside0 (∀ (j : Nat) (h : j < l.length), j < i → (!timeB l[j]) = false))
 case atStart => exact ⟨0, rfl, ⟨by omega⟩, ⟨rfl⟩, ⟨fun j _ hj => absurd hj (by omega)⟩⟩
 case round =>
  obtain ⟨i, rfl, HK, HB, HN⟩ := hrel
  obtain rfl := HB.out
  by_cases hi : i < l.length
  ·obtain ⟨ad, e, x0⟩ := at_l HR.out hi
   cases e
   have hcall := notime_walk l[i] wr
   obtain ⟨x, hx⟩ : ∃ x, l[i] = x := ⟨_, rfl⟩
   rw [hx] at x0 hcall
   have HX := am hx
   clear hx
   have hlt : decide ((i : Int) < (l.length : Int)) = true := dT (by omega)
   have p0 := eq_true (show (0 : Int) ≤ (i : Int) by omega)
   have p1 := eq_true (show (i : Int) < (l.length : Int) by omega)
   have hw1 : wrap64 ((i : Int) + 1) = ((i + 1 : Nat) : Int) := by unfold wrap64; omega
   cases gk with
   | zero => exact absurd HK.out (by omega)
   | succ k1 =>
   cases hq : (!timeB x) with
   | true =>
    rw [hq] at hcall
    go_wp2_with fail
    refine hcall.mono ?_
    rintro e w' ⟨rfl, rfl⟩
    go_wp2_with fail
    go_ret
    refine ⟨?_, rfl⟩
    rw [fstI_hit (i := i) hi (by rw [HX.out]; exact hq) HN.out]
    rfl
   | false =>
    rw [hq] at hcall
    go_wp2_with fail
    refine hcall.mono ?_
    rintro e w' ⟨rfl, rfl⟩
    go_wp2_with fail
    go_roundg k1
    case measure => have := HK.out; omega
    case rel =>
     refine ⟨i + 1, rfl, ⟨by have := HK.out; omega⟩, ⟨rfl⟩, ⟨fun j h hj => ?_⟩⟩
     by_cases e : j = i
     ·subst e; rw [HX.out]; exact hq
     ·exact HN.out j h (by omega)
  ·have hlt : decide ((i : Int) < (l.length : Int)) = false := dF (by omega)
   go_wp2_with fail
   go_ret
   refine ⟨?_, rfl⟩
   rw [fstI_miss (fun j h => HN.out j h (by omega))]
   rfl
theorem contains64 (A0 : Option Addr) (c0 : Nat) (l : List Int) (w : World) (hr : Kd.C (Kd.int .i64) w A0 l.length l) (hl : l.length ≤ 1000000) :
  Calls Tryz.prog 56 #[.slice A0 l.length c0, .func (.func 57) #[] #[]] w fun e w' => e = .returned (.bool (l.any fun x => !timeB x)) ∧ w' = w := by
 have hi := index64 A0 c0 l w hr hl
 rw [← fstI_any]
 generalize fstI (fun x => !timeB x) l = r at hi ⊢
 clear hr hl
 go_enter Tryz.func56, Tryz.ntmps56
 go_wp2_with fail
 refine hi.mono ?_
 rintro e w1 ⟨rfl, rfl⟩
 go_wp2_with fail
 go_ret
 exact ⟨rfl, rfl⟩
theorem firstM {l : List Int} {n : Nat} (hn : 0 < n) (hnn : l.length = n) : Value.int .i64 (l[0]'(by omega)) = Value.int .i64 (Lib.maxOf (l.take 1)) := by
 have hl : 0 < l.length := by omega
 rw [Lib.maxOf_one]
 simp [hl]
set_option maxHeartbeats 2000000 in
theorem max64 (A0 : Option Addr) (c0 : Nat) (l : List Int) (w : World) (hr : Kd.C (Kd.int .i64) w A0 l.length l) (hn : 0 < l.length) (hbig : l.length ≤ 1000000) :
  Calls Tryz.prog 42 #[.slice A0 l.length c0] w fun e w' => e = .returned (.int .i64 (Lib.maxOf l)) ∧ w' = w := by
 obtain ⟨ad, rfl, hx⟩ := Kd.at_int hr 0 (by omega) (by omega)
 have hc : Aside0 (∀ j, j < l.length → w.cell? (ad.add j) = some (.int .i64 (l.getD j 0))) := ⟨fun j hj => by
  obtain ⟨ad', e, h⟩ := Kd.at_int hr (j : Int) (by omega) (by omega)
  cases e
  simpa [rd] using h⟩
 have h0 : w.cell? ad = some (.int .i64 (l.getD 0 0)) := by have h := hc.out 0 hn; simpa [Addr.add] using h
 clear hr hx
 have hlast : Lib.maxOf l = Lib.maxOf (l.take l.length) := by simp
 rw [hlast]
 clear hlast
 obtain ⟨n, hnn⟩ : ∃ n, l.length = n := ⟨_, rfl⟩
 rw [hnn] at hn hbig hc ⊢
 go_enter Tryz.func42, Tryz.ntmps42
 go_wp2
 go_loop [3, 4] (fun m i => ∃ k : Nat, 0 < k ∧ k ≤ n ∧ i = .int .i64 k ∧ m = .int .i64 (Lib.maxOf (l.take k))) (fun _ i => match i with | .int _ q => n - q.toNat | _ => 0)
 case atStart => exact ⟨1, Nat.one_pos, hn, rfl, firstM hn hnn⟩
 case round =>
  obtain ⟨k, hk0, hk, rfl, rfl⟩ := hrel
  have hcell : k < n → w.cell? (ad.add k) = some (.int .i64 (l.getD k 0)) := fun h => hc.out k h
  go_wp2
  ·have hlt : k < n := by assumption
   have hkl : k < l.length := by omega
   refine ⟨⟨k + 1, Nat.succ_pos k, by omega, by congr 1, ?_⟩, ?_⟩
   ·rw [Lib.maxOf_step l k hk0 (by omega)]
    simp [hkl]
   ·show n - ((k : Int) + 1).toNat < n - ((k : Int)).toNat
    omega
  ·have hge : ¬ k < n := by assumption
   have : k = n := by omega
   subst this
   go_ret
   exact ⟨rfl, rfl⟩
theorem firstN {l : List Int} {n : Nat} (hn : 0 < n) (hnn : l.length = n) : Value.int .i64 (l[0]'(by omega)) = Value.int .i64 (Lib.minOf (l.take 1)) := by
 have hl : 0 < l.length := by omega
 rw [Lib.minOf_one]
 simp [hl]
set_option maxHeartbeats 2000000 in
theorem min64 (A0 : Option Addr) (c0 : Nat) (l : List Int) (w : World) (hr : Kd.C (Kd.int .i64) w A0 l.length l) (hn : 0 < l.length) (hbig : l.length ≤ 1000000) :
  Calls Tryz.prog 43 #[.slice A0 l.length c0] w fun e w' => e = .returned (.int .i64 (Lib.minOf l)) ∧ w' = w := by
 obtain ⟨ad, rfl, hx⟩ := Kd.at_int hr 0 (by omega) (by omega)
 have hc : Aside0 (∀ j, j < l.length → w.cell? (ad.add j) = some (.int .i64 (l.getD j 0))) := ⟨fun j hj => by
  obtain ⟨ad', e, h⟩ := Kd.at_int hr (j : Int) (by omega) (by omega)
  cases e
  simpa [rd] using h⟩
 have h0 : w.cell? ad = some (.int .i64 (l.getD 0 0)) := by have h := hc.out 0 hn; simpa [Addr.add] using h
 clear hr hx
 have hlast : Lib.minOf l = Lib.minOf (l.take l.length) := by simp
 rw [hlast]
 clear hlast
 obtain ⟨n, hnn⟩ : ∃ n, l.length = n := ⟨_, rfl⟩
 rw [hnn] at hn hbig hc ⊢
 go_enter Tryz.func43, Tryz.ntmps43
 go_wp2
 go_loop [3, 4] (fun m i => ∃ k : Nat, 0 < k ∧ k ≤ n ∧ i = .int .i64 k ∧ m = .int .i64 (Lib.minOf (l.take k))) (fun _ i => match i with | .int _ q => n - q.toNat | _ => 0)
 case atStart => exact ⟨1, Nat.one_pos, hn, rfl, firstN hn hnn⟩
 case round =>
  obtain ⟨k, hk0, hk, rfl, rfl⟩ := hrel
  have hcell : k < n → w.cell? (ad.add k) = some (.int .i64 (l.getD k 0)) := fun h => hc.out k h
  go_wp2
  ·have hlt : k < n := by assumption
   have hkl : k < l.length := by omega
   refine ⟨⟨k + 1, Nat.succ_pos k, by omega, by congr 1, ?_⟩, ?_⟩
   ·rw [Lib.minOf_step l k hk0 (by omega)]
    simp [hkl]
   ·show n - ((k : Int) + 1).toNat < n - ((k : Int)).toNat
    omega
  ·have hge : ¬ k < n := by assumption
   have : k = n := by omega
   subst this
   go_ret
   exact ⟨rfl, rfl⟩
def sprd (l : List Int) : Int × Bool := if l = [] ∨ (l.any fun x => !timeB x) = true then (0, false) else (wrap64 (Lib.maxOf l - Lib.minOf l), true)
theorem gspread_walk (A0 : Option Addr) (c0 : Nat) (l : List Int) (w : World) (hr : Kd.C (Kd.int .i64) w A0 l.length l) (hl : l.length ≤ 1000000) :
  Calls Tryz.prog 32 #[.slice A0 l.length c0] w fun e w' => e = .returned (.tuple #[.int .i64 (sprd l).1, .bool (sprd l).2]) ∧ w' = w := by
 by_cases h0 : l = []
 ·subst h0
  go_enter Tryz.func32, Tryz.ntmps32
  go_wp2
  go_ret2
  exact ⟨rfl, rfl⟩
 ·have hn : 0 < l.length := List.length_pos_iff.2 h0
  have hc := contains64 A0 c0 l w hr hl
  have hM := max64 A0 c0 l w hr hn hl
  have hN := min64 A0 c0 l w hr hn hl
  have he : ((l.length : Int) == 0) = false := by simp; omega
  unfold sprd
  cases hb : (l.any fun x => !timeB x) with
  | true =>
   rw [hb] at hc
   rw [if_pos (Or.inr rfl)]
   clear hM hN hr
   go_enter Tryz.func32, Tryz.ntmps32
   go_wp2_with fail
   refine hc.mono ?_
   rintro e w1 ⟨rfl, rfl⟩
   go_wp2_with fail
   go_ret2
   exact ⟨rfl, rfl⟩
  | false =>
   rw [hb] at hc
   rw [if_neg (by rintro (h | h); exact h0 h; exact absurd h (by decide))]
   generalize Lib.maxOf l = M at hM ⊢
   generalize Lib.minOf l = N at hN ⊢
   clear hr
   go_enter Tryz.func32, Tryz.ntmps32
   go_wp2_with fail
   refine hc.mono ?_
   rintro e w1 ⟨rfl, rfl⟩
   go_wp2_with fail
   refine hM.mono ?_
   rintro e w1 ⟨rfl, rfl⟩
   go_wp2_with fail
   refine hN.mono ?_
   rintro e w1 ⟨rfl, rfl⟩
   go_wp2_with fail
   go_ret2
   exact ⟨rfl, rfl⟩
end Go.Proofs.YtbefbhghmommhaaGreatDoor.MWo
namespace Go.Proofs.YtbefbhghmommhaaGreatDoor.MWo
open Go.RowKit Go.Proofs.YtbefbhghmommhaaGreatDoorW.PrintWords Go.Proofs.YtbefbhghmommhaaGreatDoorW.PrintLast Go.Proofs.YtbefbhghmommhaaGreatDoorW.PrintMore
attribute [local go_sem] mp_u32s mp_u32m mp_u8s mp_u8m max2_int min2_int max_two min_two max_three min_three max_four min_four
set_option linter.unusedVariables false
set_option linter.unusedSimpArgs false
def watch_starts.l0 : Nat → List Int → List (S55) → Int → Int → Option (List Int)
 | 0, _, _, _, _ => none
 | k + 1, x3, x7, x8, x9 => if x9 < x8 then (if 0 ≤ x9 then (if x9 < (x7.length : Int) then (if x3.length < 17592186044416 then (watch_starts.l0 k (x3 ++ [(rd_T55 x7 x9).f3]) x7 x8 (wrap64 (x9 + 1))) else (none)) else (none)) else (none)) else (some x3)
def watch_starts.f (k : Nat) (l0_0 : List (S55)) (a0_1 : Bool) (a0_2 : Int) (l0_3 : List Int) : Option (List Int) := (watch_synced.f k l0_0 a0_1 a0_2 l0_3).bind fun t170 => (watch_starts.l0 k ([] : List Int) t170 (t170.length : Int) 0)
set_option maxHeartbeats 8000000 in
set_option maxRecDepth 100000 in
theorem watch_starts.calls (k : Nat) (A0_0 : Option Addr) (c0_0 : Nat) (l0_0 : List (S55)) (a0_1 : Bool) (a0_2 : Int) (A0_3 : Option Addr) (c0_3 : Nat) (l0_3 : List Int) (r : List Int) (w : World) (hr0_0 : Kd.C k55 w A0_0 l0_0.length l0_0) (hc0_0 : l0_0.length ≤ c0_0) (hr0_3 : Kd.C (Kd.int .i64) w A0_3 l0_3.length l0_3) (hc0_3 : l0_3.length ≤ c0_3) (h : watch_starts.f k l0_0 a0_1 a0_2 l0_3 = some r) :
  Calls Tryz.prog 31 #[.agg #[.slice A0_0 l0_0.length c0_0, .bool a0_1, .int .i64 a0_2, .slice A0_3 l0_3.length c0_3]] w fun e w' => ∃ v0_ : Value, e = .returned (v0_) ∧ Kd.R (Kd.int .i64) 2 w' w.heap.size (fun _ => True) v0_ r ∧ Below w.heap.size w w' := by
 have hu37 := Tryz.underlying37
 have hu55 := Tryz.underlying55
 have HR0_0 := am hr0_0
 have HC0_0 := am hc0_0
 clear hr0_0 hc0_0
 have HR0_3 := am hr0_3
 have HC0_3 := am hc0_3
 clear hr0_3 hc0_3
 have HB := am (Below.refl w.heap.size w)
 have H : ((watch_synced.f k l0_0 a0_1 a0_2 l0_3).bind fun t170 => (watch_starts.l0 k ([] : List Int) t170 (t170.length : Int) 0)) = some r := h
 clear h
 replace H := bS H
 obtain ⟨t170, A20, H⟩ := H
 replace H : (watch_starts.l0 k ([] : List Int) t170 (t170.length : Int) 0) = some r := H
 have A2 := am A20
 clear A20
 have H' := am H
 clear H
 go_enter Tryz.func31, Tryz.ntmps31
 go_wp2_with (first | ((with_reducible refine gate_dst (N := 1) rfl ?_); refine bxe 1 #[.slice A0_0 l0_0.length c0_0, .bool a0_1, .int .i64 a0_2, .slice A0_3 l0_3.length c0_3] 37 ?_; intro gb169 hg w3 hbox hb; have n0_ := am (below_step bl0 hb); have n1_ := am (hbox); have n2_ := am (gw0 hg); have n3_ := am (gw0 hg); clear HB; have HB := n0_; have BK169 := n1_; have GW169 := n2_; have GE169 := n3_; clear n0_ n1_ n2_ n3_; clear hb hbox hg; obtain ⟨hcz4_0, hcz4_1, hcz4_2, hcz4_3⟩ := cellsK4 BK169.out; obtain ⟨hfz4_0, hfz4_1, hfz4_2, hfz4_3⟩ := frozK4 BK169.out) | ((with_reducible refine gate_callee (f := 23) rfl ?_); refine goesL_ (some 7) rfl rfl Tryz.func23 (by kernel_rfl) rfl #[.agg #[.slice A0_0 l0_0.length c0_0, .bool a0_1, .int .i64 a0_2, .slice A0_3 l0_3.length c0_3]] rfl lm ?_; (with_reducible refine (watch_synced.calls k (fun k_ => k_ < w.heap.size) _ _ l0_0 a0_1 a0_2 _ _ l0_3 t170 _ ?side1 ?side2 ?side3 A2.out).mono ?_); (case side1 => exact Kd.V_mk HC0_0.out (Kd.F_below (Kd.C_F k55_heap HR0_0.out) (bl1 GE169))); (case side2 => exact kc HR0_3); (case side3 => exact HC0_3.out); rintro e w5 ⟨v171, rfl, ho0, hb⟩; refine ⟨_, rfl, ?_⟩; have n0_ := am (Kd.N_lower (Kd.N_mono (ok' := fun k_ => k_ ≠ gb169) ho0 (fun k_ hk_ => Or.elim hk_ (fun hs_ => fun e_ => Nat.not_le.2 hs_ (by rw [e_]; exact GW169.out)) (fun hn_ => (Kd.freshB (g := gb169) (o := .cells #[.slice A0_0 l0_0.length c0_0, .bool a0_1, .int .i64 a0_2, .slice A0_3 l0_3.length c0_3] 37 (0, 0)) (bk BK169) k_ hn_)))) (below_size (bl1 GE169))); have n1_ := am (blk_below (bk BK169) hb); have n2_ := am (below_step (bl1 GE169) hb); clear BK169; clear HB; have HO172 := n0_; have BK169 := n1_; have HB := n2_; clear n0_ n1_ n2_; (try clear hb); (try clear hb2); (try clear hk); (try clear hi); (try clear ho0); obtain ⟨Ao6, co6, eo6⟩ := Kd.N_slice HO172.out; subst eo6))
 go_loopg [3, 9] k (fun kq v3 v9 w' => ∃ (x3_1 : List Int) (x9_1 : Int), v9 = .int .i64 x9_1 ∧ Aside0 (watch_starts.l0 kq x3_1 t170 (t170.length : Int) x9_1 = some r) ∧ Aside0 (kq ≤ k) ∧ Aside0 (Kd.R (Kd.int .i64) 2 w' w.heap.size (fun _ => True) v3 x3_1) ∧ Aside0 (Kd.N k55 55 w' w.heap.size (fun k_ => some k_ ≠ (v3 : Value).ownBlock ∧ k_ ≠ gb169) (.slice Ao6 t170.length co6) t170) ∧ Aside0 (w'.heap[gb169]? = some (.cells #[(.slice A0_0 l0_0.length c0_0), .bool a0_1, .int .i64 a0_2, (.slice A0_3 l0_3.length c0_3)] 37 (0, 0))) ∧ Aside0 (Below w.heap.size w w'))
 case atStart => exact ⟨(([] : List Int)), (0), bx, H', ⟨Nat.le_refl _⟩, ⟨by first | exact Kd.R_nil _ _ _ _ _ | exact Kd.N_nil _ _ _ _ _ | exact Kd.V_nil _ _ _ _ _ | exact Kd.Q_nil _ _ _ _ _ | exact Kd.S_nil _ _ _ _ _⟩, ⟨by (with_reducible repeat (first | apply Kd.N_alloc | apply Kd.N_drewN | apply Kd.N_drew)); exact Kd.N_mono HO172.out (fun _ hk => ⟨(by simp [Value.ownBlock]), hk⟩)⟩, ⟨bk BK169⟩, ⟨bl1 GE169⟩⟩
 case round =>
  clear H'
  try clear c2
  try clear p2
  try clear c3
  try clear hcz4_0 hcz4_1 hcz4_2 hcz4_3
  try clear hfz4_0 hfz4_1 hfz4_2 hfz4_3
  obtain ⟨x3_1, x9_1, rfl, HA, HK1, HO_3, HO_7, BK169, HB⟩ := hrel
  cases gk with
  | zero => exact absurd HA.out (by simp [watch_starts.l0])
  | succ k1 =>
   have H := HA.out
   clear HA
   simp only [watch_starts.l0] at H
   by_cases c7 : x9_1 < (t170.length : Int)
   ·rw [if_pos c7] at H
    have c7b0 : decide (x9_1 < (t170.length : Int)) = true := dT c7
    clear c7
    by_cases c8 : 0 ≤ x9_1
    ·rw [if_pos c8] at H
     have c8b0 : decide (0 ≤ x9_1) = true := dT c8
     clear c8
     by_cases c9 : x9_1 < (t170.length : Int)
     ·rw [if_pos c9] at H
      have c9b0 : decide (x9_1 < (t170.length : Int)) = true := dT c9
      clear c9
      by_cases c10 : x3_1.length < 17592186044416
      ·rw [if_pos c10] at H
       have LMc10 := am c10
       clear c10
       obtain ⟨y175, hy175⟩ : ∃ y_ : List Int, y_ = (x3_1 ++ [(rd_T55 t170 x9_1).f3]) := ⟨_, rfl⟩
       replace H : (watch_starts.l0 k1 y175 t170 (t170.length : Int) (wrap64 (x9_1 + 1))) = some r := by first | (rw [hy175]; with_reducible exact H) | (have H2_ := (Option.bind_some _ _).symm.trans H; rw [hy175]; with_reducible exact H2_) | (have H2_ := (Option.bind_some _ _).symm.trans H; with_reducible exact H2_) | with_reducible exact H | (rw [hy175]; exact H) | exact H
       have Ny175 := am hy175
       clear hy175
       have H' := am H
       clear H
       have p173 : 0 ≤ (x9_1 : Int) := oT asm
       have q173 : x9_1 < (t170.length : Int) := oT asm
       obtain ⟨ad173, A173_5, c173_5, e173, hx173_0, hx173_1, hx173_2, hx173_3, hx173_4, hx173_5, hx173_6, hx173_7, hl173_5, hi173_5⟩ := at_T55 (Kd.N_reads' HO_7.out).2.2 x9_1 p173 q173
       cases e173
       obtain ⟨ce173, hce173, hMe173, hcc173⟩ := Kd.N_get HO_7.out z55 x9_1 p173 (by first | exact q173 | exact oT asm | (have e_ := (Kd.N_reads' HO_7.out).1; omega))
       obtain ⟨ua173_5, uc173_5, rfl, ul173_5, ge173_5⟩ := k55_openF hMe173
       have hv173_5 := hcc173 5 _ rfl
       rw [add_field _ _ 5 (by omega)] at hv173_5
       replace hv173_5 := Option.some.inj (hv173_5.symm.trans hx173_5)
       injection hv173_5 with hva_ hvn_ hvc_
       rw [hva_] at ge173_5
       rw [hvc_] at ul173_5
       have HL173_5 := am (show Kd.V (Kd.int .i64) 3 _ w.heap.size _ _ ((rd_T55 t170 x9_1).f5) from Kd.V_mk ul173_5 ge173_5)
       clear hva_ hvn_ hvc_ ge173_5 ul173_5
       clear hcc173 hce173
       have HR173_5 := am hi173_5
       have HC173_5 := am hl173_5
       clear hi173_5 hl173_5
       replace p173 := eq_true p173
       replace q173 := eq_true q173
       go_wp2_with (first | ((with_reducible refine gate_dst (N := 5) rfl ?_); refine bxe 5 #[.int .i64 0, .int .i64 0, .int .i64 0, .int .i64 0, .int .i64 0, .slice none 0 0, .int .i64 0, .int .i64 0] 55 ?_; intro gb174 hg w11 hbox hb; have n0_ := am (Kd.R_below (kr HO_3.out) hb); have n1_ := am (Kd.N_below (Kd.N_elderB (kn HO_7.out) gb174 (Nat.le_of_eq hg.symm)) hb); have n2_ := am (Kd.V_below (Kd.V_elderB (by (with_reducible repeat (first | apply Kd.V_alloc | apply Kd.V_drewN | apply Kd.V_drew)); exact HL173_5.out) gb174 (Nat.le_of_eq hg.symm)) hb); have n3_ := am (blk_below (bk BK169) hb); have n4_ := am (Kd.C_below (by repeat (first | (with_reducible exact HR173_5.out) | (with_reducible refine Kd.C_alloc ?_ _) | (with_reducible refine Kd.C_drewN ?_ _) | (with_reducible refine Kd.C_drew ?_) | exact HR173_5.out)) hb); have n5_ := am (below_step (bl1 GE169) hb); have n6_ := am (hbox); have n7_ := am (gw1 hg GE169); have n8_ := am (gw1 hg GE169); have n9_ := am (nl hg BK169); have n10_ := am (nr hg BK169); clear HO_3; clear HO_7; clear HL173_5; clear BK169; clear HR173_5; clear HB; have HO_3 := n0_; have HO_7 := n1_; have HL173_5 := n2_; have BK169 := n3_; have HR173_5 := n4_; have HB := n5_; have BK174 := n6_; have GW174 := n7_; have GE174 := n8_; have NB169_174 := n9_; have NB174_169 := n10_; clear n0_ n1_ n2_ n3_ n4_ n5_ n6_ n7_ n8_ n9_ n10_; clear hb hbox hg; have hnb12 := NB174_169.out; have hnc12 := NB169_174.out; obtain ⟨hcz13_0, hcz13_1, hcz13_2, hcz13_3, hcz13_4, hcz13_5, hcz13_6, hcz13_7⟩ := cellsK8 BK174.out; obtain ⟨hfz13_0, hfz13_1, hfz13_2, hfz13_3, hfz13_4, hfz13_5, hfz13_6, hfz13_7⟩ := frozK8 BK174.out) | ((with_reducible refine gate_builtin (b := .append) (xs := #[.tmp 13, .tmp 16]) rfl ?_); at_builtin; refine Kd.R_append (Kd.int .i64) (w0 := w) w.heap.size rfl (.tmp 13) (.tmp 16) 61 2 (.int .i64 0) 8 rfl Tryz.underlying61 info2 rfl (by decide) (by omega) u3 x3_1 ((rd_T55 t170 x9_1).f3) [.int .i64 ((rd_T55 t170 x9_1).f3)] (fun _ => True) (fun _ => False) rfl (by first | (go_simp; done) | (go_simp; rfl)) ?aP (fun _ hk => hk.elim) ?aF ?aO ?aB ?aS ?aL ?_; (case aP => exact rfl); (case aB => exact (bl2 GE169 GE174)); (case aF => exact (fun _ _ => trivial)); (case aO => exact (by (with_reducible repeat (first | apply Kd.R_alloc | apply Kd.R_drewN | apply Kd.R_drew)); exact Kd.R_mono (Kd.R_far (p := ⟨gb174, 7, none⟩) (Kd.R_far (p := ⟨gb174, 6, none⟩) (Kd.R_far (p := ⟨gb174, 5, none⟩) (Kd.R_far (p := ⟨gb174, 4, none⟩) (Kd.R_far (p := ⟨gb174, 3, none⟩) (Kd.R_far (p := ⟨gb174, 2, none⟩) (Kd.R_far (p := ⟨gb174, 1, none⟩) (Kd.R_far (p := ⟨gb174, 0, none⟩) (Kd.R_types HO_3.out BK174.out (by decide)) (fun _ hk => hk.2) (.int .i64 ((rd_T55 t170 x9_1).f0))) (fun _ hk => hk.2) (.int .i64 ((rd_T55 t170 x9_1).f1))) (fun _ hk => hk.2) (.int .i64 ((rd_T55 t170 x9_1).f2))) (fun _ hk => hk.2) (.int .i64 ((rd_T55 t170 x9_1).f3))) (fun _ hk => hk.2) (.int .i64 ((rd_T55 t170 x9_1).f4))) (fun _ hk => hk.2) (.slice A173_5 ((rd_T55 t170 x9_1).f5).length c173_5)) (fun _ hk => hk.2) (.int .i64 ((rd_T55 t170 x9_1).f6))) (fun _ hk => hk.2) (.int .i64 ((rd_T55 t170 x9_1).f7))) (fun _ hk => trivial))); (case aS => exact (below_size (bl2 GE169 GE174))); (case aL => have := LMc10.out; omega); intro v176 w14 ho hb hg hat; rw [← Ny175.out] at ho; have n0_ := am (Kd.N_afterv (ok := (fun k_ => k_ ≠ gb169 ∧ k_ ≠ gb174)) (by (with_reducible repeat (first | apply Kd.N_alloc | apply Kd.N_drewN | apply Kd.N_drew)); exact Kd.N_mono (Kd.N_far (p := ⟨gb174, 7, none⟩) (Kd.N_far (p := ⟨gb174, 6, none⟩) (Kd.N_far (p := ⟨gb174, 5, none⟩) (Kd.N_far (p := ⟨gb174, 4, none⟩) (Kd.N_far (p := ⟨gb174, 3, none⟩) (Kd.N_far (p := ⟨gb174, 2, none⟩) (Kd.N_far (p := ⟨gb174, 1, none⟩) (Kd.N_far (p := ⟨gb174, 0, none⟩) (Kd.N_mono HO_7.out (fun k_ hk => (⟨hk, hk.2⟩ : _ ∧ k_ ≠ gb174))) (fun _ hk => hk.2) (.int .i64 ((rd_T55 t170 x9_1).f0))) (fun _ hk => hk.2) (.int .i64 ((rd_T55 t170 x9_1).f1))) (fun _ hk => hk.2) (.int .i64 ((rd_T55 t170 x9_1).f2))) (fun _ hk => hk.2) (.int .i64 ((rd_T55 t170 x9_1).f3))) (fun _ hk => hk.2) (.int .i64 ((rd_T55 t170 x9_1).f4))) (fun _ hk => hk.2) (.slice A173_5 ((rd_T55 t170 x9_1).f5).length c173_5)) (fun _ hk => hk.2) (.int .i64 ((rd_T55 t170 x9_1).f6))) (fun _ hk => hk.2) (.int .i64 ((rd_T55 t170 x9_1).f7))) (fun _ hk => ⟨⟨hk.1.1.2, hk.1.2⟩, hk.1.1.1⟩)) hg hat); have n1_ := am (blk_grown (g := gb169) (o := .cells #[.slice A0_0 l0_0.length c0_0, .bool a0_1, .int .i64 a0_2, .slice A0_3 l0_3.length c0_3] 37 (0, 0)) (by (with_reducible repeat (first | refine blk_drewN ?_ _ | refine blk_drew ?_ | refine blk_alloc ?_ _)); refine blk_far ?_ NB169_174.out _; (with_reducible repeat (first | refine blk_drewN ?_ _ | refine blk_drew ?_ | refine blk_alloc ?_ _)); refine blk_far ?_ NB169_174.out _; (with_reducible repeat (first | refine blk_drewN ?_ _ | refine blk_drew ?_ | refine blk_alloc ?_ _)); refine blk_far ?_ NB169_174.out _; (with_reducible repeat (first | refine blk_drewN ?_ _ | refine blk_drew ?_ | refine blk_alloc ?_ _)); refine blk_far ?_ NB169_174.out _; (with_reducible repeat (first | refine blk_drewN ?_ _ | refine blk_drew ?_ | refine blk_alloc ?_ _)); refine blk_far ?_ NB169_174.out _; (with_reducible repeat (first | refine blk_drewN ?_ _ | refine blk_drew ?_ | refine blk_alloc ?_ _)); refine blk_far ?_ NB169_174.out _; (with_reducible repeat (first | refine blk_drewN ?_ _ | refine blk_drew ?_ | refine blk_alloc ?_ _)); refine blk_far ?_ NB169_174.out _; (with_reducible repeat (first | refine blk_drewN ?_ _ | refine blk_drew ?_ | refine blk_alloc ?_ _)); refine blk_far ?_ NB169_174.out _; exact bk BK169) hg (Kd.R_ne HO_3.out BK169.out (by decide))); have n2_ := am (Kd.V_afterv (ok := (fun k_ => some k_ ≠ (.slice (some ad173) t170.length co6 : Value).ownBlock ∧ k_ ≠ gb169 ∧ k_ ≠ gb174)) (by (with_reducible repeat (first | apply Kd.V_alloc | apply Kd.V_drewN | apply Kd.V_drew)); exact Kd.V_mono (Kd.V_far (p := ⟨gb174, 7, none⟩) (Kd.V_far (p := ⟨gb174, 6, none⟩) (Kd.V_far (p := ⟨gb174, 5, none⟩) (Kd.V_far (p := ⟨gb174, 4, none⟩) (Kd.V_far (p := ⟨gb174, 3, none⟩) (Kd.V_far (p := ⟨gb174, 2, none⟩) (Kd.V_far (p := ⟨gb174, 1, none⟩) (Kd.V_far (p := ⟨gb174, 0, none⟩) (Kd.V_mono HL173_5.out (fun k_ hk => (⟨hk, hk.2⟩ : _ ∧ k_ ≠ gb174))) (fun _ hk => hk.2) (.int .i64 ((rd_T55 t170 x9_1).f0))) (fun _ hk => hk.2) (.int .i64 ((rd_T55 t170 x9_1).f1))) (fun _ hk => hk.2) (.int .i64 ((rd_T55 t170 x9_1).f2))) (fun _ hk => hk.2) (.int .i64 ((rd_T55 t170 x9_1).f3))) (fun _ hk => hk.2) (.int .i64 ((rd_T55 t170 x9_1).f4))) (fun _ hk => hk.2) (.slice A173_5 ((rd_T55 t170 x9_1).f5).length c173_5)) (fun _ hk => hk.2) (.int .i64 ((rd_T55 t170 x9_1).f6))) (fun _ hk => hk.2) (.int .i64 ((rd_T55 t170 x9_1).f7))) (fun _ hk => ⟨⟨hk.1.1.2, ⟨hk.1.1.1.2, hk.1.2⟩⟩, hk.1.1.1.1⟩)) hg hat); have n3_ := am (blk_grown (g := gb174) (o := .cells #[.int .i64 ((rd_T55 t170 x9_1).f0), .int .i64 ((rd_T55 t170 x9_1).f1), .int .i64 ((rd_T55 t170 x9_1).f2), .int .i64 ((rd_T55 t170 x9_1).f3), .int .i64 ((rd_T55 t170 x9_1).f4), .slice A173_5 ((rd_T55 t170 x9_1).f5).length c173_5, .int .i64 ((rd_T55 t170 x9_1).f6), .int .i64 ((rd_T55 t170 x9_1).f7)] 55 (0, 0)) (by (with_reducible repeat (first | refine blk_drewN ?_ _ | refine blk_drew ?_ | refine blk_alloc ?_ _)); refine blk_put (cs := #[.int .i64 ((rd_T55 t170 x9_1).f0), .int .i64 ((rd_T55 t170 x9_1).f1), .int .i64 ((rd_T55 t170 x9_1).f2), .int .i64 ((rd_T55 t170 x9_1).f3), .int .i64 ((rd_T55 t170 x9_1).f4), .slice A173_5 ((rd_T55 t170 x9_1).f5).length c173_5, .int .i64 ((rd_T55 t170 x9_1).f6), .int .i64 0]) ?_ 7 _ rfl; (with_reducible repeat (first | refine blk_drewN ?_ _ | refine blk_drew ?_ | refine blk_alloc ?_ _)); refine blk_put (cs := #[.int .i64 ((rd_T55 t170 x9_1).f0), .int .i64 ((rd_T55 t170 x9_1).f1), .int .i64 ((rd_T55 t170 x9_1).f2), .int .i64 ((rd_T55 t170 x9_1).f3), .int .i64 ((rd_T55 t170 x9_1).f4), .slice A173_5 ((rd_T55 t170 x9_1).f5).length c173_5, .int .i64 0, .int .i64 0]) ?_ 6 _ rfl; (with_reducible repeat (first | refine blk_drewN ?_ _ | refine blk_drew ?_ | refine blk_alloc ?_ _)); refine blk_put (cs := #[.int .i64 ((rd_T55 t170 x9_1).f0), .int .i64 ((rd_T55 t170 x9_1).f1), .int .i64 ((rd_T55 t170 x9_1).f2), .int .i64 ((rd_T55 t170 x9_1).f3), .int .i64 ((rd_T55 t170 x9_1).f4), .slice none 0 0, .int .i64 0, .int .i64 0]) ?_ 5 _ rfl; (with_reducible repeat (first | refine blk_drewN ?_ _ | refine blk_drew ?_ | refine blk_alloc ?_ _)); refine blk_put (cs := #[.int .i64 ((rd_T55 t170 x9_1).f0), .int .i64 ((rd_T55 t170 x9_1).f1), .int .i64 ((rd_T55 t170 x9_1).f2), .int .i64 ((rd_T55 t170 x9_1).f3), .int .i64 0, .slice none 0 0, .int .i64 0, .int .i64 0]) ?_ 4 _ rfl; (with_reducible repeat (first | refine blk_drewN ?_ _ | refine blk_drew ?_ | refine blk_alloc ?_ _)); refine blk_put (cs := #[.int .i64 ((rd_T55 t170 x9_1).f0), .int .i64 ((rd_T55 t170 x9_1).f1), .int .i64 ((rd_T55 t170 x9_1).f2), .int .i64 0, .int .i64 0, .slice none 0 0, .int .i64 0, .int .i64 0]) ?_ 3 _ rfl; (with_reducible repeat (first | refine blk_drewN ?_ _ | refine blk_drew ?_ | refine blk_alloc ?_ _)); refine blk_put (cs := #[.int .i64 ((rd_T55 t170 x9_1).f0), .int .i64 ((rd_T55 t170 x9_1).f1), .int .i64 0, .int .i64 0, .int .i64 0, .slice none 0 0, .int .i64 0, .int .i64 0]) ?_ 2 _ rfl; (with_reducible repeat (first | refine blk_drewN ?_ _ | refine blk_drew ?_ | refine blk_alloc ?_ _)); refine blk_put (cs := #[.int .i64 ((rd_T55 t170 x9_1).f0), .int .i64 0, .int .i64 0, .int .i64 0, .int .i64 0, .slice none 0 0, .int .i64 0, .int .i64 0]) ?_ 1 _ rfl; (with_reducible repeat (first | refine blk_drewN ?_ _ | refine blk_drew ?_ | refine blk_alloc ?_ _)); refine blk_put (cs := #[.int .i64 0, .int .i64 0, .int .i64 0, .int .i64 0, .int .i64 0, .slice none 0 0, .int .i64 0, .int .i64 0]) ?_ 0 _ rfl; exact bk BK174) hg (Kd.R_ne HO_3.out BK174.out (by decide))); have n4_ := am (hb); have n5_ := am (ho); clear HO_7; clear BK169; clear HL173_5; clear BK174; clear HB; clear HO_3; have HO_7 := n0_; have BK169 := n1_; have HL173_5 := n2_; have BK174 := n3_; have HB := n4_; have HO177 := n5_; clear n0_ n1_ n2_ n3_ n4_ n5_; clear ho hb hg hat))
       go_roundg k1
       case measure => have := HK1.out; omega
       case rel => exact ⟨(y175), (wrap64 (x9_1 + 1)), bx, H', ⟨by have := HK1.out; omega⟩, ⟨kr HO177.out⟩, ⟨by (with_reducible repeat (first | apply Kd.N_alloc | apply Kd.N_drewN | apply Kd.N_drew)); exact Kd.N_mono HO_7.out (fun _ hk => ⟨hk.2, hk.1.1⟩)⟩, ⟨bk BK169⟩, ⟨bl2 GE169 GE174⟩⟩
      ·rw [if_neg c10] at H
       exact absurd H (by simp)
     ·rw [if_neg c9] at H
      exact absurd H (by simp)
    ·rw [if_neg c8] at H
     exact absurd H (by simp)
   ·rw [if_neg c7] at H
    have c7b0 : decide (x9_1 < (t170.length : Int)) = false := dF c7
    clear c7
    obtain rfl := Option.some.inj H
    go_wp2
    go_ret
    exact ⟨_, ew, kr HO_3.out, bl1 GE169⟩
end Go.Proofs.YtbefbhghmommhaaGreatDoor.MWo
set_option linter.unusedVariables false
set_option linter.unusedSimpArgs false
set_option maxRecDepth 100000
namespace Go.Proofs.YtbefbhghmommhaaGreatDoor.MWo
open Go.RowKit Go.Proofs.YtbefbhghmommhaaGreatDoorW.PrintWords Go.Proofs.YtbefbhghmommhaaGreatDoorW.PrintLast Go.Proofs.YtbefbhghmommhaaGreatDoorW.PrintMore
theorem eq_fst {l0 l1 : List Int} {i : Nat} (h0 : i < l0.length) (h1 : i < l1.length) (hne : l0[i] ≠ l1[i]) : l0 ≠ l1 := by
 intro e
 subst e
 exact hne rfl
theorem eq_all {l0 l1 : List Int} (hn : l0.length = l1.length) (h : ∀ (j : Nat) (h0 : j < l0.length) (h1 : j < l1.length), l0[j] = l1[j]) : l0 = l1 :=
 List.ext_getElem hn (fun j h0 h1 => h j h0 h1)
set_option maxHeartbeats 2000000 in
theorem equal_walk (A0 : Option Addr) (c0 : Nat) (l0 : List Int) (A1 : Option Addr) (c1 : Nat) (l1 : List Int) (w : World) (hr0 : Kd.C (Kd.int .i64) w A0 l0.length l0) (hr1 : Kd.C (Kd.int .i64) w A1 l1.length l1) (hl : l0.length ≤ 1000000) :
  Calls Tryz.prog 49 #[.slice A0 l0.length c0, .slice A1 l1.length c1] w fun e w' => e = .returned (.bool (decide (l0 = l1))) ∧ Below w.heap.size w w' := by
 have HR0 := am hr0
 have HR1 := am hr1
 clear hr0 hr1
 by_cases hn : l0.length = l1.length
 ·have hd : ((l0.length : Int) == (l1.length : Int)) = true := by simp [hn]
  have HNN := am hn
  clear hn
  go_enter Tryz.func49, Tryz.ntmps49
  go_wp2_with fail
  go_loopg [5, 13] (l0.length + 1) (fun kq _ v8 w' => ∃ i : Nat, v8 = .int .i64 i ∧ Aside0 (kq + i = l0.length + 1) ∧ Aside0 (Below w.heap.size w w') ∧ Aside0 (∀ (j : Nat) (h0 : j < l0.length) (h1 : j < l1.length), j < i → l0[j] = l1[j]))
  case atStart => exact ⟨0, rfl, ⟨by omega⟩, ⟨Below.refl _ _⟩, ⟨fun j _ _ hj => absurd hj (by omega)⟩⟩
  case round =>
   obtain ⟨i, rfl, HK, HB, HN⟩ := hrel
   by_cases hi : i < l0.length
   ·have hi1 : i < l1.length := by have := HNN.out; omega
    obtain ⟨ad, e, x0⟩ := at_l (Kd.C_below HR0.out HB.out) hi
    obtain ⟨bd, e', y0⟩ := at_l (Kd.C_below HR1.out HB.out) hi1
    subst e e'
    obtain ⟨x, hx⟩ : ∃ x, l0[i] = x := ⟨_, rfl⟩
    obtain ⟨y, hy⟩ : ∃ y, l1[i] = y := ⟨_, rfl⟩
    rw [hx] at x0
    rw [hy] at y0
    have HX := am hx
    have HY := am hy
    clear hx hy
    have hlt : decide ((i : Int) < (l0.length : Int)) = true := dT (by omega)
    have p0 := eq_true (show (0 : Int) ≤ (i : Int) by omega)
    have p1 := eq_true (show (i : Int) < (l0.length : Int) by omega)
    have p2 := eq_true (show (i : Int) < (l1.length : Int) by omega)
    have hw1 : wrap64 ((i : Int) + 1) = ((i + 1 : Nat) : Int) := by unfold wrap64; omega
    cases gk with
    | zero => exact absurd HK.out (by omega)
    | succ k1 =>
    cases hq : (x == y) with
    | false =>
     go_wp2_with fail
     go_quiet (fail)
     go_wp2_with fail
     go_ret
     refine ⟨?_, pw_below_drewN HB.out nq⟩
     have hne : l0 ≠ l1 := eq_fst hi hi1 (by rw [HX.out, HY.out]; exact fun e => by rw [e] at hq; simp at hq)
     rw [show decide (l0 = l1) = false from dF hne]
     rfl
    | true =>
     go_wp2_with fail
     go_quiet (fail)
     go_wp2_with fail
     go_roundg k1
     case measure => have := HK.out; omega
     case rel =>
      refine ⟨i + 1, rfl, ⟨by have := HK.out; omega⟩, ⟨pw_below_drewN HB.out nq⟩, ⟨fun j h0 h1 hj => ?_⟩⟩
      by_cases e : j = i
      ·subst e
       rw [HX.out, HY.out]
       exact by simpa using hq
      ·exact HN.out j h0 h1 (by omega)
   ·have hlt : decide ((i : Int) < (l0.length : Int)) = false := dF (by omega)
    go_wp2_with fail
    go_ret
    refine ⟨?_, HB.out⟩
    have he : l0 = l1 := eq_all HNN.out (fun j h0 h1 => HN.out j h0 h1 (by omega))
    rw [show decide (l0 = l1) = true from dT he]
    rfl
 ·have hd : ((l0.length : Int) == (l1.length : Int)) = false := by simp; omega
  go_enter Tryz.func49, Tryz.ntmps49
  go_wp2_with fail
  go_ret
  refine ⟨?_, Below.refl _ _⟩
  rw [show decide (l0 = l1) = false from dF (fun e => hn (by rw [e]))]
  rfl
set_option linter.unusedVariables false
set_option linter.unusedSimpArgs false
set_option maxRecDepth 100000
def unlike (y x : S55) : Bool := if x.f4 = y.f4 then (if x.f6 = y.f6 then !decide (x.f5 = y.f5) else true) else true
structure Fst (w : World) (ad : Addr) (y : S55) (B5 : Option Addr) (d5 : Nat) : Prop where
 c4 : w.cell? ⟨ad.block, ad.off + 4, none⟩ = some (.int .i64 y.f4)
 c6 : w.cell? ⟨ad.block, ad.off + 6, none⟩ = some (.int .i64 y.f6)
 c5 : w.cell? ⟨ad.block, ad.off + 5, none⟩ = some (.slice B5 y.f5.length d5)
theorem c_lt {w : World} {a : Addr} {v : Value} (h : w.cell? a = some v) : a.block < w.heap.size := World.block_lt_of_cell? _ _ h
theorem Fst.below {w w1 : World} {ad : Addr} {y : S55} {B5 : Option Addr} {d5 : Nat} (h : Fst w ad y B5 d5) (k : Below w.heap.size w w1) : Fst w1 ad y B5 d5 :=
 ⟨(k.cell (c_lt h.c4)).trans h.c4, (k.cell (c_lt h.c6)).trans h.c6, (k.cell (c_lt h.c5)).trans h.c5⟩
set_option maxHeartbeats 2000000 in
theorem unlike_walk (x y : S55) (A5 : Option Addr) (c5 : Nat) (B5 : Option Addr) (d5 : Nat) (ad : Addr) (n c lb : Nat) (w : World) (hn : 0 < n)
  (hx : Kd.C (Kd.int .i64) w A5 x.f5.length x.f5) (hy : Kd.C (Kd.int .i64) w B5 y.f5.length y.f5) (hl : x.f5.length ≤ 1000000) (hb : w.cell? ⟨lb, 0, none⟩ = some (.slice (some ad) n c)) (hf : Fst w ad y B5 d5) :
  Calls Tryz.prog 48 #[.agg #[.int .i64 x.f0, .int .i64 x.f1, .int .i64 x.f2, .int .i64 x.f3, .int .i64 x.f4, .slice A5 x.f5.length c5, .int .i64 x.f6, .int .i64 x.f7], .pointer (some ⟨lb, 0, none⟩)] w fun e w' => e = .returned (.bool (unlike y x)) ∧ Below w.heap.size w w' := by
 have HL := am hl
 have HX := am hx
 have HY := am hy
 have kb := below_alloc (Below.refl w.heap.size w) (.cells #[.int .i64 x.f0, .int .i64 x.f1, .int .i64 x.f2, .int .i64 x.f3, .int .i64 x.f4, .slice A5 x.f5.length c5, .int .i64 x.f6, .int .i64 x.f7] 55)
 have HBX := am (heap_alloc_new w (.cells #[.int .i64 x.f0, .int .i64 x.f1, .int .i64 x.f2, .int .i64 x.f3, .int .i64 x.f4, .slice A5 x.f5.length c5, .int .i64 x.f6, .int .i64 x.f7] 55))
 have HB := am kb
 have HC5 := am (Kd.C_below hx kb)
 have HD5 := am (Kd.C_below hy kb)
 have HF := am (hf.below kb)
 have HLB := am ((kb.cell (c_lt hb)).trans hb)
 have p1 := eq_true (show (0 : Int) < (n : Int) by omega)
 clear hx hy hl hb hf kb
 have hu : ∀ r, unlike y x = r → r = unlike y x := fun _ h => h.symm
 by_cases h4 : x.f4 = y.f4
 ·have b4 : (x.f4 == y.f4) = true := by simp [h4]
  by_cases h6 : x.f6 = y.f6
  ·rw [show unlike y x = !decide (x.f5 = y.f5) by unfold unlike; rw [if_pos h4, if_pos h6]]
   have n4 : (x.f4 != y.f4) = false := by simp [h4]
   have n6 : (x.f6 != y.f6) = false := by simp [h6]
   have b6 : (x.f6 == y.f6) = true := by simp [h6]
   clear h4 h6 hu
   go_enter Tryz.func48, Tryz.ntmps48
   go_wp2_with fail
   generalize w.alloc (.cells #[.int .i64 x.f0, .int .i64 x.f1, .int .i64 x.f2, .int .i64 x.f3, .int .i64 x.f4, .slice A5 x.f5.length c5, .int .i64 x.f6, .int .i64 x.f7] 55) = w1 at *
   obtain ⟨xb, hxb⟩ : ∃ xb, xb = w.heap.size := ⟨_, rfl⟩
   rw [← hxb] at HBX ⊢
   have x4 : w1.cell? ⟨xb, 4, none⟩ = some (.int .i64 x.f4) := (blk_cell HBX.out 4).trans rfl
   have x6 : w1.cell? ⟨xb, 6, none⟩ = some (.int .i64 x.f6) := (blk_cell HBX.out 6).trans rfl
   have x5 : w1.cell? ⟨xb, 5, none⟩ = some (.slice A5 x.f5.length c5) := (blk_cell HBX.out 5).trans rfl
   have y4 := HF.out.c4
   have y6 := HF.out.c6
   have y5 := HF.out.c5
   have l0 := HLB.out
   have HXB := am hxb
   clear hxb
   have dd0 : w1.drew.cell? ⟨xb, 4, none⟩ = some (.int .i64 x.f4) := x4
   have dd1 : w1.drew.cell? ⟨xb, 6, none⟩ = some (.int .i64 x.f6) := x6
   have dd2 : w1.drew.cell? ⟨xb, 5, none⟩ = some (.slice A5 x.f5.length c5) := x5
   have dd3 : w1.drew.cell? ⟨lb, 0, none⟩ = some (.slice (some ad) n c) := l0
   have dd4 : w1.drew.cell? ⟨ad.block, ad.off + 4, none⟩ = some (.int .i64 y.f4) := y4
   have dd5 : w1.drew.cell? ⟨ad.block, ad.off + 6, none⟩ = some (.int .i64 y.f6) := y6
   have dd6 : w1.drew.cell? ⟨ad.block, ad.off + 5, none⟩ = some (.slice B5 y.f5.length d5) := y5
   refine start_ (n := 27) (S := fun w' => w'.cell? ⟨xb, 4, none⟩ = some (.int .i64 x.f4) ∧ w'.cell? ⟨xb, 6, none⟩ = some (.int .i64 x.f6) ∧ w'.cell? ⟨xb, 5, none⟩ = some (.slice A5 x.f5.length c5) ∧ w'.cell? ⟨lb, 0, none⟩ = some (.slice (some ad) n c) ∧ w'.cell? ⟨ad.block, ad.off + 4, none⟩ = some (.int .i64 y.f4) ∧ w'.cell? ⟨ad.block, ad.off + 6, none⟩ = some (.int .i64 y.f6) ∧ w'.cell? ⟨ad.block, ad.off + 5, none⟩ = some (.slice B5 y.f5.length d5)) (ds := []) #[false, false, false, false, false, false, false, false, false, false, false, false, false, false, false, false, false, false, false, false, false, false, false, false, false, false, false] (by kernel_rfl) rfl rfl ⟨dd0, dd1, dd2, dd3, dd4, dd5, dd6⟩ (fun hHeld => ?_)
   refine pu 0 4 ?_
   refine tk7 1 5 ?_
   refine tk7 2 6 ?_
   refine pu 3 7 ?_
   refine pu 4 8 ?_
   refine tk7 5 9 ?_
   refine pu 6 10 ?_
   refine pu 7 11 ?_
   refine pu 8 12 ?_
   refine tk7 9 13 ?_
   refine tk7 10 14 ?_
   refine pu 11 15 ?_
   refine pu 12 16 ?_
   refine tk7 13 17 ?_
   refine pu 14 18 ?_
   refine pu 15 19 ?_
   refine pu 16 20 ?_
   refine pu 17 21 ?_
   refine tk7 18 22 ?_
   refine tk7 19 23 ?_
   refine pu 20 24 ?_
   refine pu 21 25 ?_
   refine tk7 22 26 ?_
   refine on 23 27 (fun K hK => ?_)
   refine goes_ Tryz.func49 (by kernel_rfl) rfl #[.slice A5 x.f5.length c5, .slice B5 y.f5.length d5] (by rfl) rfl rfl lm ?_
   with_reducible refine (equal_walk A5 c5 x.f5 B5 d5 y.f5 _ (Kd.C_below HC5.out (Below.refl _ _).drew) (Kd.C_below HD5.out (Below.refl _ _).drew) HL.out).mono ?_
   rintro e w3 ⟨rfl, hb3⟩
   have HBE := am (HB.out.drew.trans (hb3.mono (Nat.le_trans HB.out.size (Nat.le_refl _))))
   have z0 := (hb3.cell (c_lt dd0)).trans dd0
   have z1 := (hb3.cell (c_lt dd1)).trans dd1
   have z2 := (hb3.cell (c_lt dd2)).trans dd2
   have z3 := (hb3.cell (c_lt dd3)).trans dd3
   have z4 := (hb3.cell (c_lt dd4)).trans dd4
   have z5 := (hb3.cell (c_lt dd5)).trans dd5
   have z6 := (hb3.cell (c_lt dd6)).trans dd6
   clear hb3
   refine ⟨_, rfl, ?_⟩
   refine hK.out _ _ ⟨z0, z1, z2, z3, z4, z5, z6⟩ (fun hHeld => ?_)
   clear hK K
   refine norm_ (a' := ?_) ?_ ?_
   rotate_left
   ·show Act.put _ (some 27) _ = _
    simp only [Act.put, sAa, sBb, sCc, i64_w, i32_w]
    rfl
   refine pu 24 28 ?_
   refine pu 25 29 ?_
   refine pu 26 3 ?_
   refine done_ (by kernel_rfl) ?_
   try go_wp2_with fail
   go_ret
   exact ⟨rfl, HBE.out⟩
  ·rw [show unlike y x = true by unfold unlike; rw [if_pos h4, if_neg h6]]
   have b6 : (x.f6 == y.f6) = false := by simp [h6]
   have n4 : (x.f4 != y.f4) = false := by simp [h4]
   have n6 : (x.f6 != y.f6) = true := by simp [h6]
   clear h4 h6 hu
   go_enter Tryz.func48, Tryz.ntmps48
   go_wp2_with fail
   generalize w.alloc (.cells #[.int .i64 x.f0, .int .i64 x.f1, .int .i64 x.f2, .int .i64 x.f3, .int .i64 x.f4, .slice A5 x.f5.length c5, .int .i64 x.f6, .int .i64 x.f7] 55) = w1 at *
   obtain ⟨xb, hxb⟩ : ∃ xb, xb = w.heap.size := ⟨_, rfl⟩
   rw [← hxb] at HBX ⊢
   have x4 : w1.cell? ⟨xb, 4, none⟩ = some (.int .i64 x.f4) := (blk_cell HBX.out 4).trans rfl
   have x6 : w1.cell? ⟨xb, 6, none⟩ = some (.int .i64 x.f6) := (blk_cell HBX.out 6).trans rfl
   have x5 : w1.cell? ⟨xb, 5, none⟩ = some (.slice A5 x.f5.length c5) := (blk_cell HBX.out 5).trans rfl
   have y4 := HF.out.c4
   have y6 := HF.out.c6
   have y5 := HF.out.c5
   have l0 := HLB.out
   have HXB := am hxb
   clear hxb
   go_quiet (fail)
   go_wp2_with fail
   go_ret
   exact ⟨rfl, pw_below_drewN HB.out nq⟩
 ·rw [show unlike y x = true by unfold unlike; rw [if_neg h4]]
  have b4 : (x.f4 == y.f4) = false := by simp [h4]
  have n4 : (x.f4 != y.f4) = true := by simp [h4]
  clear h4 hu
  go_enter Tryz.func48, Tryz.ntmps48
  go_wp2_with fail
  generalize w.alloc (.cells #[.int .i64 x.f0, .int .i64 x.f1, .int .i64 x.f2, .int .i64 x.f3, .int .i64 x.f4, .slice A5 x.f5.length c5, .int .i64 x.f6, .int .i64 x.f7] 55) = w1 at *
  obtain ⟨xb, hxb⟩ : ∃ xb, xb = w.heap.size := ⟨_, rfl⟩
  rw [← hxb] at HBX ⊢
  have x4 : w1.cell? ⟨xb, 4, none⟩ = some (.int .i64 x.f4) := (blk_cell HBX.out 4).trans rfl
  have x6 : w1.cell? ⟨xb, 6, none⟩ = some (.int .i64 x.f6) := (blk_cell HBX.out 6).trans rfl
  have x5 : w1.cell? ⟨xb, 5, none⟩ = some (.slice A5 x.f5.length c5) := (blk_cell HBX.out 5).trans rfl
  have y4 := HF.out.c4
  have y6 := HF.out.c6
  have y5 := HF.out.c5
  have l0 := HLB.out
  have HXB := am hxb
  clear hxb
  go_quiet (fail)
  go_wp2_with fail
  go_ret
  exact ⟨rfl, pw_below_drewN HB.out nq⟩
abbrev nodeV (x : S55) (A5 : Option Addr) (c5 : Nat) : Value := .agg #[.int .i64 x.f0, .int .i64 x.f1, .int .i64 x.f2, .int .i64 x.f3, .int .i64 x.f4, .slice A5 x.f5.length c5, .int .i64 x.f6, .int .i64 x.f7]
def PredN (g : Nat) (lb : Array Value) (p : S55 → Bool) (l : List S55) (w : World) : Prop :=
 ∀ (W : World) (x : S55) (A5 : Option Addr) (c5 : Nat), x ∈ l → Below w.heap.size w W → Kd.C (Kd.int .i64) W A5 x.f5.length x.f5 → x.f5.length ≤ c5 → Calls Tryz.prog g (#[nodeV x A5 c5] ++ lb) W fun e w' => e = .returned (.bool (p x)) ∧ Below W.heap.size W w'
theorem rd_n {l : List S55} {i : Int} (h0 : 0 ≤ i) (h1 : i < l.length) : rd_T55 l i = l[i.toNat]'(by omega) := by
 have : i.toNat < l.length := by omega
 simp [rd_T55, List.getD_eq_getElem?_getD, this]
set_option maxHeartbeats 2000000 in
theorem indexNode (p : S55 → Bool) (g : Nat) (lb : Array Value) (eg : ∀ args w, (callFunc g args).run Tryz.prog w = .ok (.enter g args) w) (A0 : Option Addr) (c0 : Nat) (l : List S55) (w : World)
  (hr : Kd.C k55 w A0 l.length l) (hl : l.length ≤ 1000000) (hp : PredN g lb p l w) :
  Calls Tryz.prog 53 #[.slice A0 l.length c0, .func (.func g) #[] lb] w fun e w' => e = .returned (.int .i64 (fstI p l)) ∧ Below w.heap.size w w' := by
 have HR := am hr
 have HP := am hp
 clear hr hp
 go_enter Tryz.func53, Tryz.ntmps53
 go_wp2_with fail
 go_loopg [5, 8] (l.length + 1) (fun kq _ v8 w' => ∃ i : Int, v8 = .int .i64 i ∧ Aside0 (kq + i = l.length + 1 ∧ 0 ≤ i) ∧ Aside0 (Below w.heap.size w w') ∧ Aside0 (∀ (j : Nat) (h : j < l.length), (j : Int) < i → p l[j] = false))
 case atStart => exact ⟨0, rfl, ⟨by omega⟩, ⟨Below.refl _ _⟩, ⟨fun j _ hj => absurd hj (by omega)⟩⟩
 case round =>
  obtain ⟨i, rfl, HK, HB, HN⟩ := hrel
  by_cases hi : i < (l.length : Int)
  ·have h0 := HK.out.2
   obtain ⟨ad, A5, c5, e, x0, x1, x2, x3, x4, x5, x6, x7, hc5, hC5⟩ := at_T55 (Kd.C_below HR.out HB.out) i h0 hi
   cases e
   have hx := rd_n h0 hi
   rw [hx] at x0 x1 x2 x3 x4 x5 x6 x7 hc5 hC5
   have hcall := HP.out wr _ A5 c5 (List.getElem_mem (show i.toNat < l.length by omega)) HB.out hC5 hc5
   have hlt : decide (i < (l.length : Int)) = true := dT hi
   obtain ⟨x, hxx⟩ : ∃ x, l[i.toNat]'(by omega) = x := ⟨_, rfl⟩
   rw [hxx] at x0 x1 x2 x3 x4 x5 x6 x7 hcall
   have HX := am hxx
   clear hx hxx hc5 hC5
   have p0 := eq_true h0
   have p1 := eq_true hi
   have hw1 : wrap64 (i + 1) = i + 1 := by unfold wrap64; omega
   cases gk with
   | zero => exact absurd HK.out (by omega)
   | succ k1 =>
   cases hq : p x with
   | true =>
    rw [hq] at hcall
    go_wp2_with fail
    refine hcall.mono ?_
    rintro e w' ⟨rfl, hb'⟩
    have HB' := am hb'
    clear hb'
    go_wp2_with fail
    go_ret
    refine ⟨?_, below_step HB.out HB'.out⟩
    rw [fstI_hit (i := i.toNat) (by omega) (by rw [HX.out]; exact hq) (fun j h hj => HN.out j h (by omega)), show ((i.toNat : Nat) : Int) = i by omega]
    rfl
   | false =>
    rw [hq] at hcall
    go_wp2_with fail
    refine hcall.mono ?_
    rintro e w' ⟨rfl, hb'⟩
    have HB' := am hb'
    clear hb'
    go_wp2_with fail
    go_roundg k1
    case measure => have := HK.out; omega
    case rel =>
     refine ⟨i + 1, rfl, ⟨by have := HK.out; omega⟩, ⟨below_step HB.out HB'.out⟩, ⟨fun j h hj => ?_⟩⟩
     by_cases e : j = i.toNat
     ·subst e; rw [HX.out]; exact hq
     ·exact HN.out j h (by omega)
  ·have hlt : decide (i < (l.length : Int)) = false := dF hi
   go_wp2_with fail
   go_ret
   refine ⟨?_, HB.out⟩
   rw [fstI_miss (fun j h => HN.out j h (by omega))]
   rfl
theorem containsNode (p : S55 → Bool) (g : Nat) (lb : Array Value) (eg : ∀ args w, (callFunc g args).run Tryz.prog w = .ok (.enter g args) w) (A0 : Option Addr) (c0 : Nat) (l : List S55) (w : World)
  (hr : Kd.C k55 w A0 l.length l) (hl : l.length ≤ 1000000) (hp : PredN g lb p l w) :
  Calls Tryz.prog 26 #[.slice A0 l.length c0, .func (.func g) #[] lb] w fun e w' => e = .returned (.bool (l.any p)) ∧ Below w.heap.size w w' := by
 have hi := indexNode p g lb eg A0 c0 l w hr hl hp
 rw [← fstI_any]
 generalize fstI p l = r at hi ⊢
 clear hr hl hp eg
 go_enter Tryz.func26, Tryz.ntmps26
 go_wp2_with fail
 refine hi.mono ?_
 rintro e w1 ⟨rfl, hb⟩
 have HB := am hb
 clear hb
 go_wp2_with fail
 go_ret
 exact ⟨rfl, HB.out⟩
theorem enter_ag (args : Array Value) (w : World) : (callFunc 48 args).run Tryz.prog w = .ok (.enter 48 args) w := entersT Tryz.func48 (by decide +kernel) rfl args w
open Go.RowKit Go.Proofs.YtbefbhghmommhaaGreatDoorW.PrintWords Go.Proofs.YtbefbhghmommhaaGreatDoorW.PrintLast Go.Proofs.YtbefbhghmommhaaGreatDoorW.PrintMore Go.Proofs.YtbefbhghmommhaaGreatDoor.Evl
def syn (l : List S55) : List S55 := l.filter fun x => decide (x.f0 = 2)
theorem syn_len (l : List S55) : (syn l).length ≤ l.length := List.length_filter_le _ _
theorem w64n {i : Nat} (h : i < 2000000) : wrap64 ((i : Int) + 1) = ((i + 1 : Nat) : Int) := by unfold wrap64; omega
theorem synced_loop {l : List S55} (hl : l.length ≤ 1000000) : ∀ (d i : Nat) (o : List S55), i + d = l.length → o.length ≤ i → Evl (fun k => watch_synced.l0 k o l (l.length : Int) (i : Int)) (o ++ syn (l.drop i))
 | 0, i, o, h, _ => by
  refine Evl.succ ?_
  simp only [watch_synced.l0]
  simp only [if_neg (show ¬ ((i : Int) < (l.length : Int)) by omega), List.drop_eq_nil_iff.2 (show l.length ≤ i by omega)]
  exact Evl.now fun _ => by simp [syn]
 | d + 1, i, o, h, ho => by
  have hi : i < l.length := by omega
  refine Evl.succ ?_
  simp only [watch_synced.l0]
  simp only [if_pos (show (i : Int) < (l.length : Int) by omega), if_pos (show (0 : Int) ≤ (i : Int) by omega), w64n (show i < 2000000 by omega), if_pos (show o.length < 1759218604441 by omega)]
  rw [List.drop_eq_getElem_cons hi]
  have hr : rd_T55 l (i : Int) = l[i] := by rw [rd_n (by omega) (by omega)]; simp
  simp only [hr]
  by_cases e : (l[i]).f0 = 2
  ·simp only [if_pos e]
   have ih := synced_loop hl d (i + 1) (o ++ [l[i]]) (by omega) (by simp; omega)
   have e2 : syn (l[i] :: l.drop (i + 1)) = l[i] :: syn (l.drop (i + 1)) := by unfold syn; rw [List.filter_cons, if_pos (by simp [e])]
   rw [e2]
   rw [List.append_assoc] at ih
   exact ih
  ·simp only [if_neg e]
   have ih := synced_loop hl d (i + 1) o (by omega) (by omega)
   have e2 : syn (l[i] :: l.drop (i + 1)) = syn (l.drop (i + 1)) := by unfold syn; rw [List.filter_cons, if_neg (by simp [e])]
   rw [e2]
   exact ih
theorem synced_evl {l : List S55} (hl : l.length ≤ 1000000) (a1 : Bool) (a2 : Int) (l3 : List Int) : Evl (fun k => watch_synced.f k l a1 a2 l3) (syn l) := by
 have := synced_loop hl l.length 0 [] (by omega) (by simp)
 exact this
theorem starts_loop {l : List S55} (hl : l.length ≤ 1000000) : ∀ (d i : Nat) (o : List Int), i + d = l.length → o.length ≤ i → Evl (fun k => watch_starts.l0 k o l (l.length : Int) (i : Int)) (o ++ (l.drop i).map (·.f3))
 | 0, i, o, h, _ => by
  refine Evl.succ ?_
  simp only [watch_starts.l0]
  simp only [if_neg (show ¬ ((i : Int) < (l.length : Int)) by omega), List.drop_eq_nil_iff.2 (show l.length ≤ i by omega)]
  exact Evl.now fun _ => by simp
 | d + 1, i, o, h, ho => by
  have hi : i < l.length := by omega
  refine Evl.succ ?_
  simp only [watch_starts.l0]
  simp only [if_pos (show (i : Int) < (l.length : Int) by omega), if_pos (show (0 : Int) ≤ (i : Int) by omega), w64n (show i < 2000000 by omega), if_pos (show o.length < 17592186044416 by omega)]
  rw [List.drop_eq_getElem_cons hi]
  have hr : rd_T55 l (i : Int) = l[i] := by rw [rd_n (by omega) (by omega)]; simp
  simp only [hr]
  have ih := starts_loop hl d (i + 1) (o ++ [(l[i]).f3]) (by omega) (by simp; omega)
  rw [List.append_assoc] at ih
  exact ih
theorem starts_evl {l : List S55} (hl : l.length ≤ 1000000) (a1 : Bool) (a2 : Int) (l3 : List Int) : Evl (fun k => watch_starts.f k l a1 a2 l3) ((syn l).map (·.f3)) := by
 have h1 := synced_evl hl a1 a2 l3
 have h2 := starts_loop (l := syn l) (Nat.le_trans (syn_len l) hl) (syn l).length 0 [] (by omega) (by simp)
 exact Evl.bind h1 (by simpa using h2)
theorem synced_walk (A0 : Option Addr) (c0 : Nat) (l : List S55) (a1 : Bool) (a2 : Int) (A3 : Option Addr) (c3 : Nat) (l3 : List Int) (w : World) (hr0 : Kd.C k55 w A0 l.length l) (hc0 : l.length ≤ c0) (hr3 : Kd.C (Kd.int .i64) w A3 l3.length l3) (hc3 : l3.length ≤ c3) (hl : l.length ≤ 1000000) :
  Calls Tryz.prog 23 #[.agg #[.slice A0 l.length c0, .bool a1, .int .i64 a2, .slice A3 l3.length c3]] w fun e w' => ∃ A c, e = .returned (.slice A (syn l).length c) ∧ (syn l).length ≤ c ∧ Kd.C k55 w' A (syn l).length (syn l) ∧ Below w.heap.size w w' := by
 obtain ⟨k, hk⟩ := (synced_evl hl a1 a2 l3).some_
 refine (watch_synced.calls k (fun k_ => k_ < w.heap.size) A0 c0 l a1 a2 A3 c3 l3 _ w (Kd.V_mk hc0 (Kd.C_F k55_heap hr0)) hr3 hc3 hk).mono ?_
 rintro e w' ⟨v, rfl, ho, hb⟩
 obtain ⟨A, c, rfl, hc, hC⟩ := Kd.N_reads ho
 exact ⟨A, c, rfl, hc, hC, hb⟩
theorem starts_walk (A0 : Option Addr) (c0 : Nat) (l : List S55) (a1 : Bool) (a2 : Int) (A3 : Option Addr) (c3 : Nat) (l3 : List Int) (w : World) (hr0 : Kd.C k55 w A0 l.length l) (hc0 : l.length ≤ c0) (hr3 : Kd.C (Kd.int .i64) w A3 l3.length l3) (hc3 : l3.length ≤ c3) (hl : l.length ≤ 1000000) :
  Calls Tryz.prog 31 #[.agg #[.slice A0 l.length c0, .bool a1, .int .i64 a2, .slice A3 l3.length c3]] w fun e w' => ∃ v, e = .returned v ∧ Kd.R (Kd.int .i64) 2 w' w.heap.size (fun _ => True) v ((syn l).map (·.f3)) ∧ Below w.heap.size w w' := by
 obtain ⟨k, hk⟩ := (starts_evl hl a1 a2 l3).some_
 exact watch_starts.calls k A0 c0 l a1 a2 A3 c3 l3 _ w hr0 hc0 hr3 hc3 hk
def agreeB (l : List S55) : Bool := match syn l with
 | [] => true
 | y :: t => !((y :: t).any (unlike y))
set_option maxHeartbeats 1000000 in
theorem agree_walk (A0 : Option Addr) (c0 : Nat) (l : List S55) (a1 : Bool) (a2 : Int) (A3 : Option Addr) (c3 : Nat) (l3 : List Int) (w : World) (hr0 : Kd.C k55 w A0 l.length l) (hc0 : l.length ≤ c0) (hr3 : Kd.C (Kd.int .i64) w A3 l3.length l3) (hc3 : l3.length ≤ c3) (hl : l.length ≤ 1000000) (hx : ∀ x ∈ l, x.f5.length ≤ 1000000) :
  Calls Tryz.prog 20 #[.agg #[.slice A0 l.length c0, .bool a1, .int .i64 a2, .slice A3 l3.length c3]] w fun e w' => e = .returned (.bool (agreeB l)) ∧ Below w.heap.size w w' := by
 have HL := am hl
 have HX := am (show ∀ x ∈ syn l, x.f5.length ≤ 1000000 from fun x h => hx x ((List.mem_filter.1 h).1))
 have hs := synced_walk A0 c0 l a1 a2 A3 c3 l3
 have kb := below_alloc (Below.refl w.heap.size w) (.cells #[.slice A0 l.length c0, .bool a1, .int .i64 a2, .slice A3 l3.length c3] 37)
 have HB := am kb
 have hs1 := hs _ (Kd.C_below hr0 kb) hc0 (Kd.C_below hr3 kb) hc3 hl
 clear hs kb hr0 hc0 hr3 hc3 hl hx
 have hlen : (syn l).length ≤ 1000000 := Nat.le_trans (syn_len l) HL.out
 have HLS := am hlen
 have HAG := am (show agreeB l = match syn l with | [] => true | y :: t => !((y :: t).any (unlike y)) from rfl)
 generalize agreeB l = r at HAG ⊢
 generalize syn l = s at hs1 HAG HX HLS
 clear hlen
 go_enter Tryz.func20, Tryz.ntmps20
 go_wp2_with fail
 refine hs1.mono ?_
 rintro e w1 ⟨A, c, rfl, hc, hC, hb⟩
 have HB1 := am (below_step HB.out hb)
 have kb2 := below_alloc (Below.refl w1.heap.size w1) (.cells #[.slice A s.length c] 32)
 have HC2 := am (Kd.C_below hC kb2)
 have HB2 := am (below_alloc HB1.out (.cells #[.slice A s.length c] 32))
 have HN2 := am (heap_alloc_new w1 (.cells #[.slice A s.length c] 32))
 clear hb hC hc kb2
 go_wp2_with fail
 generalize w1.alloc (.cells #[.slice A s.length c] 32) = w2 at *
 cases s with
 | nil =>
  refine (containsNode (fun _ => false) 48 #[.pointer (some ⟨w1.heap.size, 0, none⟩)] enter_ag A c [] w2 HC2.out (by decide) (fun _ _ _ _ hm => absurd hm (by simp))).mono ?_
  rintro e w3 ⟨rfl, hb⟩
  have HB3 := am (below_step HB2.out hb)
  clear hb
  go_wp2_with fail
  go_ret
  refine ⟨?_, HB3.out⟩
  rw [HAG.out]
  rfl
 | cons y t =>
  obtain ⟨ad, B5, d5, e, x0, x1, x2, x3, x4, x5, x6, x7, hc5, hC5⟩ := at_T55 HC2.out 0 (by omega) (by simp)
  cases e
  have hy : rd_T55 (y :: t) 0 = y := by simp [rd_T55]
  rw [hy] at x4 x5 x6 hC5
  have HF : Aside0 (Fst w2 ad y B5 d5) := ⟨⟨by simpa [Addr.add] using x4, by simpa [Addr.add] using x6, by simpa [Addr.add] using x5⟩⟩
  have HY5 := am hC5
  clear x0 x1 x2 x3 x4 x5 x6 x7 hc5 hC5 hy
  refine (containsNode (unlike y) 48 #[.pointer (some ⟨w1.heap.size, 0, none⟩)] enter_ag (some ad) c (y :: t) w2 HC2.out HLS.out (fun W x A5 c5 hm hB hC _ => ?_)).mono ?_
  ·exact unlike_walk x y A5 c5 B5 d5 ad (y :: t).length c w1.heap.size W (by simp) hC (Kd.C_below HY5.out hB) (HX.out x hm) ((hB.cell (c_lt ((blk_cell HN2.out 0).trans rfl))).trans ((blk_cell HN2.out 0).trans rfl)) (HF.out.below hB)
  rintro e w3 ⟨rfl, hb⟩
  have HB3 := am (below_step HB2.out hb)
  have HV : Aside0 (r = !((y :: t).any (unlike y))) := ⟨HAG.out⟩
  clear hb
  generalize (y :: t).any (unlike y) = q at HV ⊢
  go_wp2_with fail
  go_ret
  refine ⟨?_, HB3.out⟩
  rw [HV.out]
  rfl
end Go.Proofs.YtbefbhghmommhaaGreatDoor.MWo
