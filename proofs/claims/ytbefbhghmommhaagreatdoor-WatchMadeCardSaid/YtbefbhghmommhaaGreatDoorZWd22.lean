/- Texts of this claim, laid together by a program (wip/g/merge5.py): HIn, MWox36, MWox56, MWox78, MWox60. -/
import Derived.Test.YtbefbhghmommhaaGreatDoorZWd20
import Derived.Test.YtbefbhghmommhaaGreatDoorZWd21
import Derived.Test.YtbefbhghmommhaaGreatDoorZWd4
import Derived.Test.YtbefbhghmommhaaGreatDoorZWd17
import Derived.Test.YtbefbhghmommhaaGreatDoorZWd11
set_option linter.unusedVariables false
set_option linter.unusedSimpArgs false
set_option maxRecDepth 100000
namespace Go.Proofs.YtbefbhghmommhaaGreatDoor.MWo
open Go.RowKit Go.Proofs.YtbefbhghmommhaaGreatDoorW.PrintWords Go.Proofs.YtbefbhghmommhaaGreatDoorW.PrintLast Go.Proofs.YtbefbhghmommhaaGreatDoorW.PrintMore
set_option maxHeartbeats 4000000 in
theorem in_walk (A0 : Option Addr) (c0 : Nat) (P : List S68) (A1 : Option Addr) (c1 : Nat) (Q : List S71) (a2 a3 a4 a5 a6 a7 a8 a9 a10 a11 a12 r1 r2 r3 r4 r5 r6 r7 : Int) (w : World) (h0 : Kd.C k68 w A0 P.length P) (h1 : P.length ≤ c0) (h2 : Kd.C k71 w A1 Q.length Q) (h3 : Q.length ≤ c1)
  (hR : plan_Right.f P Q a2 a3 a4 a5 a6 a7 a8 a9 a10 a11 a12 = some true) (hr : bounds_ranged.f 100 P Q a2 a3 a4 a5 a6 a7 a8 a9 a10 a11 a12 = some 0) (hk : bounds_Reckon.f P Q a2 a3 a4 a5 a6 a7 a8 a9 a10 a11 a12 = some (r1, r2, r3, r4, r5, r6, r7)) :
  Calls Tryz.prog 51 #[.agg #[.slice A0 P.length c0, .slice A1 Q.length c1, .int .i64 a2, .int .i64 a3, .int .i64 a4, .int .i64 a5, .int .i64 a6, .int .i64 a7, .int .i64 a8, .int .i64 a9, .int .i64 a10, .int .i64 a11, .int .i64 a12]] w fun e w' => e = .returned (.agg #[.int .i64 r1, .int .i64 r2, .int .i64 r3, .int .i64 r4, .int .i64 r5, .int .i64 r6, .int .i64 r7]) ∧ Below w.heap.size w w' := by
 have H0 := am h0
 have H1 := am h1
 have H2 := am h2
 have H3 := am h3
 have HR := am hR
 have HG := am hr
 have HK := am hk
 clear h0 h1 h2 h3 hR hr hk
 have b1 := below_alloc (Below.refl w.heap.size w) (.cells #[.slice A0 P.length c0, .slice A1 Q.length c1, .int .i64 a2, .int .i64 a3, .int .i64 a4, .int .i64 a5, .int .i64 a6, .int .i64 a7, .int .i64 a8, .int .i64 a9, .int .i64 a10, .int .i64 a11, .int .i64 a12] 25)
 have b2 := below_alloc b1 (.cells #[.int .i64 0, .int .i64 0, .int .i64 0, .int .i64 0, .int .i64 0, .int .i64 0, .int .i64 0] 85)
 have hsz : (w.alloc (.cells #[.slice A0 P.length c0, .slice A1 Q.length c1, .int .i64 a2, .int .i64 a3, .int .i64 a4, .int .i64 a5, .int .i64 a6, .int .i64 a7, .int .i64 a8, .int .i64 a9, .int .i64 a10, .int .i64 a11, .int .i64 a12] 25)).heap.size = w.heap.size + 1 := Array.size_push _
 have HC : Aside0 (((w.alloc (.cells #[.slice A0 P.length c0, .slice A1 Q.length c1, .int .i64 a2, .int .i64 a3, .int .i64 a4, .int .i64 a5, .int .i64 a6, .int .i64 a7, .int .i64 a8, .int .i64 a9, .int .i64 a10, .int .i64 a11, .int .i64 a12] 25)).alloc (.cells #[.int .i64 0, .int .i64 0, .int .i64 0, .int .i64 0, .int .i64 0, .int .i64 0, .int .i64 0] 85)).heap[w.heap.size]? = some (.cells #[.slice A0 P.length c0, .slice A1 Q.length c1, .int .i64 a2, .int .i64 a3, .int .i64 a4, .int .i64 a5, .int .i64 a6, .int .i64 a7, .int .i64 a8, .int .i64 a9, .int .i64 a10, .int .i64 a11, .int .i64 a12] 25 (0, 0))) := ⟨((below_alloc (Below.refl _ _) _).block w.heap.size (blk_lt (heap_alloc_new w _))).trans (heap_alloc_new w _)⟩
 have HZ : Aside0 (((w.alloc (.cells #[.slice A0 P.length c0, .slice A1 Q.length c1, .int .i64 a2, .int .i64 a3, .int .i64 a4, .int .i64 a5, .int .i64 a6, .int .i64 a7, .int .i64 a8, .int .i64 a9, .int .i64 a10, .int .i64 a11, .int .i64 a12] 25)).alloc (.cells #[.int .i64 0, .int .i64 0, .int .i64 0, .int .i64 0, .int .i64 0, .int .i64 0, .int .i64 0] 85)).heap[w.heap.size + 1]? = some (.cells #[.int .i64 0, .int .i64 0, .int .i64 0, .int .i64 0, .int .i64 0, .int .i64 0, .int .i64 0] 85 (0, 0))) := ⟨by have h := heap_alloc_new (w.alloc (.cells #[.slice A0 P.length c0, .slice A1 Q.length c1, .int .i64 a2, .int .i64 a3, .int .i64 a4, .int .i64 a5, .int .i64 a6, .int .i64 a7, .int .i64 a8, .int .i64 a9, .int .i64 a10, .int .i64 a11, .int .i64 a12] 25)) (.cells #[.int .i64 0, .int .i64 0, .int .i64 0, .int .i64 0, .int .i64 0, .int .i64 0, .int .i64 0] 85); rwa [hsz] at h⟩
 have HB := am b2
 clear b1 b2 hsz
 go_enter Tryz.func51, Tryz.ntmps51
 go_upto_region 1 with fail
 generalize (w.alloc (.cells #[.slice A0 P.length c0, .slice A1 Q.length c1, .int .i64 a2, .int .i64 a3, .int .i64 a4, .int .i64 a5, .int .i64 a6, .int .i64 a7, .int .i64 a8, .int .i64 a9, .int .i64 a10, .int .i64 a11, .int .i64 a12] 25)).alloc (.cells #[.int .i64 0, .int .i64 0, .int .i64 0, .int .i64 0, .int .i64 0, .int .i64 0, .int .i64 0] 85) = w1 at *
 obtain ⟨x0, x1, x2, x3, x4, x5, x6, x7, x8, x9, x10, x11, x12⟩ := cellsK13 HC.out
 go_wp2_with fail
 clear x0 x1 x2 x3 x4 x5 x6 x7 x8 x9 x10 x11 x12
 refine (plan_Right.calls A0 c0 P A1 c1 Q a2 a3 a4 a5 a6 a7 a8 a9 a10 a11 a12 _ w1 (Kd.C_below H0.out HB.out) H1.out (Kd.C_below H2.out HB.out) H3.out HR.out).mono ?_
 rintro e w2 ⟨rfl, hb⟩
 have HB_ := am (below_step HB.out hb)
 have HC_ := am ((hb.block w.heap.size (blk_lt HC.out)).trans HC.out)
 have HZ_ := am ((hb.block (w.heap.size + 1) (blk_lt HZ.out)).trans HZ.out)
 clear HB HC HZ hb
 have HB := HB_
 have HC := HC_
 have HZ := HZ_
 clear HB_ HC_ HZ_
 obtain ⟨x0, x1, x2, x3, x4, x5, x6, x7, x8, x9, x10, x11, x12⟩ := cellsK13 HC.out
 go_wp2_with fail
 clear x0 x1 x2 x3 x4 x5 x6 x7 x8 x9 x10 x11 x12
 refine (bounds_ranged.calls 100 A0 c0 P A1 c1 Q a2 a3 a4 a5 a6 a7 a8 a9 a10 a11 a12 _ w2 (Kd.C_below H0.out HB.out) H1.out (Kd.C_below H2.out HB.out) H3.out HG.out).mono ?_
 rintro e w3 ⟨rfl, hb⟩
 have HB_ := am (below_step HB.out hb)
 have HC_ := am ((hb.block w.heap.size (blk_lt HC.out)).trans HC.out)
 have HZ_ := am ((hb.block (w.heap.size + 1) (blk_lt HZ.out)).trans HZ.out)
 clear HB HC HZ hb
 have HB := HB_
 have HC := HC_
 have HZ := HZ_
 clear HB_ HC_ HZ_
 obtain ⟨x0, x1, x2, x3, x4, x5, x6, x7, x8, x9, x10, x11, x12⟩ := cellsK13 HC.out
 go_wp2_with fail
 clear x0 x1 x2 x3 x4 x5 x6 x7 x8 x9 x10 x11 x12
 refine (bounds_Reckon.calls A0 c0 P A1 c1 Q a2 a3 a4 a5 a6 a7 a8 a9 a10 a11 a12 _ _ _ _ _ _ _ w3 (Kd.C_below H0.out HB.out) H1.out (Kd.C_below H2.out HB.out) H3.out HK.out).mono ?_
 rintro e w5 ⟨rfl, hb⟩
 have HB_ := am (below_step HB.out hb)
 have HC_ := am ((hb.block w.heap.size (blk_lt HC.out)).trans HC.out)
 have HZ_ := am ((hb.block (w.heap.size + 1) (blk_lt HZ.out)).trans HZ.out)
 clear HB HC HZ hb
 have HB := HB_
 have HC := HC_
 have HZ := HZ_
 clear HB_ HC_ HZ_
 have z0 : w5.cell? ⟨w.heap.size + 1, 0, none⟩ = some (.int .i64 0) := (blk_cell HZ.out 0).trans rfl
 have zf0 := blk_frozen HZ.out 0
 have z1 : w5.cell? ⟨w.heap.size + 1, 1, none⟩ = some (.int .i64 0) := (blk_cell HZ.out 1).trans rfl
 have zf1 := blk_frozen HZ.out 1
 have z2 : w5.cell? ⟨w.heap.size + 1, 2, none⟩ = some (.int .i64 0) := (blk_cell HZ.out 2).trans rfl
 have zf2 := blk_frozen HZ.out 2
 have z3 : w5.cell? ⟨w.heap.size + 1, 3, none⟩ = some (.int .i64 0) := (blk_cell HZ.out 3).trans rfl
 have zf3 := blk_frozen HZ.out 3
 have z4 : w5.cell? ⟨w.heap.size + 1, 4, none⟩ = some (.int .i64 0) := (blk_cell HZ.out 4).trans rfl
 have zf4 := blk_frozen HZ.out 4
 have z5 : w5.cell? ⟨w.heap.size + 1, 5, none⟩ = some (.int .i64 0) := (blk_cell HZ.out 5).trans rfl
 have zf5 := blk_frozen HZ.out 5
 have z6 : w5.cell? ⟨w.heap.size + 1, 6, none⟩ = some (.int .i64 0) := (blk_cell HZ.out 6).trans rfl
 have zf6 := blk_frozen HZ.out 6
 go_wp2_with fail
 refine bodyPost_ret (results_cell_row rfl _ _ (w.heap.size + 1) 85 #[.int .i64 r1, .int .i64 r2, .int .i64 r3, .int .i64 r4, .int .i64 r5, .int .i64 r6, .int .i64 r7] (0, 0) _ rfl (by have h := (blk_set (blk_set (blk_set (blk_set (blk_set (blk_set (blk_set HZ.out 0 (.int .i64 r1)) 1 (.int .i64 r2)) 2 (.int .i64 r3)) 3 (.int .i64 r4)) 4 (.int .i64 r5)) 5 (.int .i64 r6)) 6 (.int .i64 r7)); simpa using h) Tryz.underlying85 rfl (by kernel_rfl)) rfl ?_
 exact ⟨rfl, (((((((HB.out.setCell (p := ⟨w.heap.size + 1, 0, none⟩) (Nat.le_succ _) (.int .i64 r1)).setCell (p := ⟨w.heap.size + 1, 1, none⟩) (Nat.le_succ _) (.int .i64 r2)).setCell (p := ⟨w.heap.size + 1, 2, none⟩) (Nat.le_succ _) (.int .i64 r3)).setCell (p := ⟨w.heap.size + 1, 3, none⟩) (Nat.le_succ _) (.int .i64 r4)).setCell (p := ⟨w.heap.size + 1, 4, none⟩) (Nat.le_succ _) (.int .i64 r5)).setCell (p := ⟨w.heap.size + 1, 5, none⟩) (Nat.le_succ _) (.int .i64 r6)).setCell (p := ⟨w.heap.size + 1, 6, none⟩) (Nat.le_succ _) (.int .i64 r7))⟩
end Go.Proofs.YtbefbhghmommhaaGreatDoor.MWo
namespace Go.Proofs.YtbefbhghmommhaaGreatDoor.MWo
open Go.RowKit Go.Proofs.YtbefbhghmommhaaGreatDoorW.PrintWords Go.Proofs.YtbefbhghmommhaaGreatDoorW.PrintLast Go.Proofs.YtbefbhghmommhaaGreatDoorW.PrintMore
attribute [local go_sem] mp_u32s mp_u32m mp_u8s mp_u8m max2_int min2_int max_two min_two max_three min_three max_four min_four
set_option linter.unusedVariables false
set_option linter.unusedSimpArgs false
def bounds_in.f (l0_0 : List S68) (l0_1 : List S71) (a0_2 a0_3 a0_4 a0_5 a0_6 a0_7 a0_8 a0_9 a0_10 a0_11 a0_12 : Int) : Option (Int × Int × Int × Int × Int × Int × Int) := (plan_Right.f l0_0 l0_1 a0_2 a0_3 a0_4 a0_5 a0_6 a0_7 a0_8 a0_9 a0_10 a0_11 a0_12).bind fun t => if t = true then (bounds_ranged.f 100 l0_0 l0_1 a0_2 a0_3 a0_4 a0_5 a0_6 a0_7 a0_8 a0_9 a0_10 a0_11 a0_12).bind fun x => if x = 0 then bounds_Reckon.f l0_0 l0_1 a0_2 a0_3 a0_4 a0_5 a0_6 a0_7 a0_8 a0_9 a0_10 a0_11 a0_12 else none else none
theorem bounds_in.calls (A0_0 : Option Addr) (c0_0 : Nat) (l0_0 : List S68) (A0_1 : Option Addr) (c0_1 : Nat) (l0_1 : List S71) (a0_2 a0_3 a0_4 a0_5 a0_6 a0_7 a0_8 a0_9 a0_10 a0_11 a0_12 : Int) (r1 r2 r3 r4 r5 r6 r7 : Int) (w : World) (hr0_0 : Kd.C k68 w A0_0 l0_0.length l0_0) (hc0_0 : l0_0.length ≤ c0_0) (hr0_1 : Kd.C k71 w A0_1 l0_1.length l0_1) (hc0_1 : l0_1.length ≤ c0_1) (h : bounds_in.f l0_0 l0_1 a0_2 a0_3 a0_4 a0_5 a0_6 a0_7 a0_8 a0_9 a0_10 a0_11 a0_12 = some (r1, r2, r3, r4, r5, r6, r7)) :
  Calls Tryz.prog 51 #[.agg #[.slice A0_0 l0_0.length c0_0, .slice A0_1 l0_1.length c0_1, .int .i64 a0_2, .int .i64 a0_3, .int .i64 a0_4, .int .i64 a0_5, .int .i64 a0_6, .int .i64 a0_7, .int .i64 a0_8, .int .i64 a0_9, .int .i64 a0_10, .int .i64 a0_11, .int .i64 a0_12]] w fun e w' => e = .returned (.agg #[.int .i64 r1, .int .i64 r2, .int .i64 r3, .int .i64 r4, .int .i64 r5, .int .i64 r6, .int .i64 r7]) ∧ Below w.heap.size w w' := by
 unfold bounds_in.f at h
 obtain ⟨t, ht, h⟩ := bS h
 split at h
 ·rename_i e
  subst e
  obtain ⟨x, hx, h⟩ := bS h
  split at h
  ·rename_i e
   subst e
   exact in_walk A0_0 c0_0 l0_0 A0_1 c0_1 l0_1 a0_2 a0_3 a0_4 a0_5 a0_6 a0_7 a0_8 a0_9 a0_10 a0_11 a0_12 r1 r2 r3 r4 r5 r6 r7 w hr0_0 hc0_0 hr0_1 hc0_1 ht hx h
  ·cases h
 ·cases h
def bounds_Near.f (l0_0 : List (S68)) (l0_1 : List (S71)) (a0_2 : Int) (a0_3 : Int) (a0_4 : Int) (a0_5 : Int) (a0_6 : Int) (a0_7 : Int) (a0_8 : Int) (a0_9 : Int) (a0_10 : Int) (a0_11 : Int) (a0_12 : Int) : Option (Int) := (bounds_in.f l0_0 l0_1 a0_2 a0_3 a0_4 a0_5 a0_6 a0_7 a0_8 a0_9 a0_10 a0_11 a0_12).bind fun bt190 => (some bt190.2.1)
set_option maxHeartbeats 8000000 in
set_option maxRecDepth 100000 in
theorem bounds_Near.calls (A0_0 : Option Addr) (c0_0 : Nat) (l0_0 : List (S68)) (A0_1 : Option Addr) (c0_1 : Nat) (l0_1 : List (S71)) (a0_2 : Int) (a0_3 : Int) (a0_4 : Int) (a0_5 : Int) (a0_6 : Int) (a0_7 : Int) (a0_8 : Int) (a0_9 : Int) (a0_10 : Int) (a0_11 : Int) (a0_12 : Int) (r : Int) (w : World) (hr0_0 : Kd.C k68 w A0_0 l0_0.length l0_0) (hc0_0 : l0_0.length ≤ c0_0) (hr0_1 : Kd.C k71 w A0_1 l0_1.length l0_1) (hc0_1 : l0_1.length ≤ c0_1) (h : bounds_Near.f l0_0 l0_1 a0_2 a0_3 a0_4 a0_5 a0_6 a0_7 a0_8 a0_9 a0_10 a0_11 a0_12 = some r) :
  Calls Tryz.prog 33 #[.agg #[.slice A0_0 l0_0.length c0_0, .slice A0_1 l0_1.length c0_1, .int .i64 a0_2, .int .i64 a0_3, .int .i64 a0_4, .int .i64 a0_5, .int .i64 a0_6, .int .i64 a0_7, .int .i64 a0_8, .int .i64 a0_9, .int .i64 a0_10, .int .i64 a0_11, .int .i64 a0_12]] w fun e w' => e = .returned (.int .i64 r) ∧ Below w.heap.size w w' := by
 have hu25 := Tryz.underlying25
 have HR0_0 := am hr0_0
 have HC0_0 := am hc0_0
 clear hr0_0 hc0_0
 have HR0_1 := am hr0_1
 have HC0_1 := am hc0_1
 clear hr0_1 hc0_1
 have HB := am (Below.refl w.heap.size w)
 have H : ((bounds_in.f l0_0 l0_1 a0_2 a0_3 a0_4 a0_5 a0_6 a0_7 a0_8 a0_9 a0_10 a0_11 a0_12).bind fun bt190 => (some bt190.2.1)) = some r := h
 clear h
 replace H := bS H
 obtain ⟨⟨t190, t191, t192, t193, t194, t195, t196⟩, A20, H⟩ := H
 have hfd0 : ∀ w_ : World, (Instr.field 85 (.agg #[.int .i64 t190, .int .i64 t191, .int .i64 t192, .int .i64 t193, .int .i64 t194, .int .i64 t195, .int .i64 t196]) 0).run Tryz.prog w_ = .ok (.int .i64 t190) w_ := fun _ => by kernel_rfl
 have hfd1 : ∀ w_ : World, (Instr.field 85 (.agg #[.int .i64 t190, .int .i64 t191, .int .i64 t192, .int .i64 t193, .int .i64 t194, .int .i64 t195, .int .i64 t196]) 1).run Tryz.prog w_ = .ok (.int .i64 t191) w_ := fun _ => by kernel_rfl
 have hfd5 : ∀ w_ : World, (Instr.field 85 (.agg #[.int .i64 t190, .int .i64 t191, .int .i64 t192, .int .i64 t193, .int .i64 t194, .int .i64 t195, .int .i64 t196]) 5).run Tryz.prog w_ = .ok (.int .i64 t195) w_ := fun _ => by kernel_rfl
 replace H : (some t191) = some r := H
 have A2 := am A20
 clear A20
 obtain rfl := Option.some.inj H
 go_enter Tryz.func33, Tryz.ntmps33
 go_wp2_with (first | ((with_reducible refine gate_dst (N := 1) rfl ?_); refine bxe 1 #[.slice A0_0 l0_0.length c0_0, .slice A0_1 l0_1.length c0_1, .int .i64 a0_2, .int .i64 a0_3, .int .i64 a0_4, .int .i64 a0_5, .int .i64 a0_6, .int .i64 a0_7, .int .i64 a0_8, .int .i64 a0_9, .int .i64 a0_10, .int .i64 a0_11, .int .i64 a0_12] 25 ?_; intro gb189 hg w3 hbox hb; have n0_ := am (below_step bl0 hb); have n1_ := am (hbox); have n2_ := am (gw0 hg); have n3_ := am (gw0 hg); clear HB; have HB := n0_; have BK189 := n1_; have GW189 := n2_; have GE189 := n3_; clear n0_ n1_ n2_ n3_; clear hb hbox hg; obtain ⟨hcz4_0, hcz4_1, hcz4_2, hcz4_3, hcz4_4, hcz4_5, hcz4_6, hcz4_7, hcz4_8, hcz4_9, hcz4_10, hcz4_11, hcz4_12⟩ := cellsK13 BK189.out; obtain ⟨hfz4_0, hfz4_1, hfz4_2, hfz4_3, hfz4_4, hfz4_5, hfz4_6, hfz4_7, hfz4_8, hfz4_9, hfz4_10, hfz4_11, hfz4_12⟩ := frozK13 BK189.out) | ((with_reducible refine gate_callee (f := 51) rfl ?_); refine goesL_ (some 4) rfl rfl Tryz.func51 (by kernel_rfl) rfl #[.agg #[.slice A0_0 l0_0.length c0_0, .slice A0_1 l0_1.length c0_1, .int .i64 a0_2, .int .i64 a0_3, .int .i64 a0_4, .int .i64 a0_5, .int .i64 a0_6, .int .i64 a0_7, .int .i64 a0_8, .int .i64 a0_9, .int .i64 a0_10, .int .i64 a0_11, .int .i64 a0_12]] rfl lm ?_; (with_reducible refine (bounds_in.calls _ _ l0_0 _ _ l0_1 a0_2 a0_3 a0_4 a0_5 a0_6 a0_7 a0_8 a0_9 a0_10 a0_11 a0_12 t190 t191 t192 t193 t194 t195 t196 _ ?side1 ?side2 ?side3 ?side4 A2.out).mono ?_); (case side1 => exact kc HR0_0); (case side2 => exact HC0_0.out); (case side3 => exact kc HR0_1); (case side4 => exact HC0_1.out); rintro e w5 ⟨rfl, hb⟩; refine ⟨_, rfl, ?_⟩; have n0_ := am (blk_below (bk BK189) hb); have n1_ := am (below_step (bl1 GE189) hb); clear BK189; clear HB; have BK189 := n0_; have HB := n1_; clear n0_ n1_; (try clear hb); (try clear hb2); (try clear hk); (try clear hi)))
 go_ret
 exact ⟨ew, bl1 GE189⟩
def dr5_Near.f (l0_0 : List (S68)) (l0_1 : List (S71)) (a0_2 : Int) (a0_3 : Int) (a0_4 : Int) (a0_5 : Int) (a0_6 : Int) (a0_7 : Int) (a0_8 : Int) (a0_9 : Int) (a0_10 : Int) (a0_11 : Int) (a0_12 : Int) : Option (Int) := (dr5_Edge.f l0_0 l0_1 a0_2 a0_3 a0_4 a0_5 a0_6 a0_7 a0_8 a0_9 a0_10 a0_11 a0_12).bind fun t260 => (some (wrap64 (2 * t260)))
set_option maxHeartbeats 8000000 in
set_option maxRecDepth 100000 in
theorem dr5_Near.calls (A0_0 : Option Addr) (c0_0 : Nat) (l0_0 : List (S68)) (A0_1 : Option Addr) (c0_1 : Nat) (l0_1 : List (S71)) (a0_2 : Int) (a0_3 : Int) (a0_4 : Int) (a0_5 : Int) (a0_6 : Int) (a0_7 : Int) (a0_8 : Int) (a0_9 : Int) (a0_10 : Int) (a0_11 : Int) (a0_12 : Int) (r : Int) (w : World) (hr0_0 : Kd.C k68 w A0_0 l0_0.length l0_0) (hc0_0 : l0_0.length ≤ c0_0) (hr0_1 : Kd.C k71 w A0_1 l0_1.length l0_1) (hc0_1 : l0_1.length ≤ c0_1) (h : dr5_Near.f l0_0 l0_1 a0_2 a0_3 a0_4 a0_5 a0_6 a0_7 a0_8 a0_9 a0_10 a0_11 a0_12 = some r) :
  Calls Tryz.prog 36 #[.agg #[.slice A0_0 l0_0.length c0_0, .slice A0_1 l0_1.length c0_1, .int .i64 a0_2, .int .i64 a0_3, .int .i64 a0_4, .int .i64 a0_5, .int .i64 a0_6, .int .i64 a0_7, .int .i64 a0_8, .int .i64 a0_9, .int .i64 a0_10, .int .i64 a0_11, .int .i64 a0_12]] w fun e w' => e = .returned (.int .i64 r) ∧ Below w.heap.size w w' := by
 have hu25 := Tryz.underlying25
 have HR0_0 := am hr0_0
 have HC0_0 := am hc0_0
 clear hr0_0 hc0_0
 have HR0_1 := am hr0_1
 have HC0_1 := am hc0_1
 clear hr0_1 hc0_1
 have HB := am (Below.refl w.heap.size w)
 have H : ((dr5_Edge.f l0_0 l0_1 a0_2 a0_3 a0_4 a0_5 a0_6 a0_7 a0_8 a0_9 a0_10 a0_11 a0_12).bind fun t260 => (some (wrap64 (2 * t260)))) = some r := h
 clear h
 replace H := bS H
 obtain ⟨t260, A20, H⟩ := H
 replace H : (some (wrap64 (2 * t260))) = some r := H
 have A2 := am A20
 clear A20
 obtain rfl := Option.some.inj H
 go_enter Tryz.func36, Tryz.ntmps36
 go_wp2_with (first | ((with_reducible refine gate_dst (N := 1) rfl ?_); refine bxe 1 #[.slice A0_0 l0_0.length c0_0, .slice A0_1 l0_1.length c0_1, .int .i64 a0_2, .int .i64 a0_3, .int .i64 a0_4, .int .i64 a0_5, .int .i64 a0_6, .int .i64 a0_7, .int .i64 a0_8, .int .i64 a0_9, .int .i64 a0_10, .int .i64 a0_11, .int .i64 a0_12] 25 ?_; intro gb259 hg w3 hbox hb; have n0_ := am (below_step bl0 hb); have n1_ := am (hbox); have n2_ := am (gw0 hg); have n3_ := am (gw0 hg); clear HB; have HB := n0_; have BK259 := n1_; have GW259 := n2_; have GE259 := n3_; clear n0_ n1_ n2_ n3_; clear hb hbox hg; obtain ⟨hcz4_0, hcz4_1, hcz4_2, hcz4_3, hcz4_4, hcz4_5, hcz4_6, hcz4_7, hcz4_8, hcz4_9, hcz4_10, hcz4_11, hcz4_12⟩ := cellsK13 BK259.out; obtain ⟨hfz4_0, hfz4_1, hfz4_2, hfz4_3, hfz4_4, hfz4_5, hfz4_6, hfz4_7, hfz4_8, hfz4_9, hfz4_10, hfz4_11, hfz4_12⟩ := frozK13 BK259.out) | ((with_reducible refine gate_callee (f := 38) rfl ?_); refine goesL_ (some 4) rfl rfl Tryz.func38 (by kernel_rfl) rfl #[.agg #[.slice A0_0 l0_0.length c0_0, .slice A0_1 l0_1.length c0_1, .int .i64 a0_2, .int .i64 a0_3, .int .i64 a0_4, .int .i64 a0_5, .int .i64 a0_6, .int .i64 a0_7, .int .i64 a0_8, .int .i64 a0_9, .int .i64 a0_10, .int .i64 a0_11, .int .i64 a0_12]] rfl lm ?_; (with_reducible refine (dr5_Edge.calls _ _ l0_0 _ _ l0_1 a0_2 a0_3 a0_4 a0_5 a0_6 a0_7 a0_8 a0_9 a0_10 a0_11 a0_12 t260 _ ?side1 ?side2 ?side3 ?side4 A2.out).mono ?_); (case side1 => exact kc HR0_0); (case side2 => exact HC0_0.out); (case side3 => exact kc HR0_1); (case side4 => exact HC0_1.out); rintro e w5 ⟨rfl, hb⟩; refine ⟨_, rfl, ?_⟩; have n0_ := am (blk_below (bk BK259) hb); have n1_ := am (below_step (bl1 GE259) hb); clear BK259; clear HB; have BK259 := n0_; have HB := n1_; clear n0_ n1_; (try clear hb); (try clear hb2); (try clear hk); (try clear hi)))
 go_ret
 exact ⟨ew, bl1 GE259⟩
def dr26_Agree.f (l0_0 : List S55) (a0_1 : Bool) (a0_2 : Int) (l0_3 : List Int) : Option Bool := if l0_0.length ≤ 1000 ∧ (l0_0.all fun x => decide (x.f5.length ≤ 1000000)) = true then some (agreeB l0_0) else none
theorem dr26_Agree.calls (A0_0 : Option Addr) (c0_0 : Nat) (l0_0 : List S55) (a0_1 : Bool) (a0_2 : Int) (A0_3 : Option Addr) (c0_3 : Nat) (l0_3 : List Int) (r : Bool) (w : World) (hr0_0 : Kd.C k55 w A0_0 l0_0.length l0_0) (hc0_0 : l0_0.length ≤ c0_0) (hr0_3 : Kd.C (Kd.int .i64) w A0_3 l0_3.length l0_3) (hc0_3 : l0_3.length ≤ c0_3) (h : dr26_Agree.f l0_0 a0_1 a0_2 l0_3 = some r) :
  Calls Tryz.prog 21 #[.agg #[.slice A0_0 l0_0.length c0_0, .bool a0_1, .int .i64 a0_2, .slice A0_3 l0_3.length c0_3]] w fun e w' => e = .returned (.bool r) ∧ Below w.heap.size w w' := by
 unfold dr26_Agree.f at h
 split at h
 ·rename_i hc
  injection h with h
  subst h
  exact ragree_walk A0_0 c0_0 l0_0 a0_1 a0_2 A0_3 c0_3 l0_3 w hr0_0 hc0_0 hr0_3 hc0_3 hc.1 (fun x hx => oT (List.all_eq_true.mp hc.2 x hx))
 ·cases h
end Go.Proofs.YtbefbhghmommhaaGreatDoor.MWo
