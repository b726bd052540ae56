/- Texts of this claim, laid together by a program (wip/g/merge3.py): HWd. -/
import Derived.Test.YtbefbhghmommhaaGreatDoorZWa27
import Derived.Test.YtbefbhghmommhaaGreatDoorZWa28
set_option linter.unusedVariables false
set_option linter.unusedSimpArgs false
set_option maxRecDepth 100000
namespace Go.Proofs.YtbefbhghmommhaaGreatDoor.MWo
open Go.RowKit Go.Proofs.YtbefbhghmommhaaGreatDoorW.PrintWords Go.Proofs.YtbefbhghmommhaaGreatDoorW.PrintLast Go.Proofs.YtbefbhghmommhaaGreatDoorW.PrintMore Go.Proofs.YtbefbhghmommhaaGreatDoor.Evl
theorem wspread_evl {l : List S55} (hl : l.length ≤ 1000000) (a1 : Bool) (a2 : Int) (l3 : List Int) : Evl (fun k => watch_Spread.f k l a1 a2 l3) ((sprd ((syn l).map (·.f3))).1, (sprd ((syn l).map (·.f3))).2) := by
 unfold watch_Spread.f
 refine Evl.bind (starts_evl hl a1 a2 l3) ?_
 have e1 : gauge_Spread.f ((syn l).map (·.f3)) = some ((sprd ((syn l).map (·.f3))).1, (sprd ((syn l).map (·.f3))).2) := if_pos (by have := syn_len l; rw [List.length_map]; omega)
 simp only [e1, Option.bind_some]
 exact Evl.now fun _ => rfl
theorem rspread26_evl {l : List S55} (hl : l.length ≤ 1000000) (a1 : Bool) (a2 : Int) (l3 : List Int) : Evl (fun k => dr26_Spread.f k l a1 a2 l3) ((sprd ((syn l).map (·.f3))).1, (sprd ((syn l).map (·.f3))).2) := by
 unfold dr26_Spread.f
 have h0 := syn_len l
 refine Evl.bind (rsynced_evl hl a1 a2 l3) ?_
 refine Evl.bind (rstarts_evl (by omega)) ?_
 exact Evl.bind (rspread_evl (by rw [List.length_map]; omega)) (Evl.now fun _ => rfl)
set_option maxHeartbeats 4000000 in
theorem cells_walk (n : Int) (x y : S37) (A : Option Addr) (c : Nat) (A3 : Option Addr) (c3 : Nat) (B : Option Addr) (d : Nat) (B3 : Option Addr) (d3 : Nat) (w : World) (hx : CellAt w x A c A3 c3) (hy : CellAt w y B d B3 d3) :
  Calls Tryz.prog 5 #[.int .i64 n, .agg (cellV x A c A3 c3), .agg (cellV y B d B3 d3)] w fun e w' => e = .returned (.bool true) ∧ Below w.heap.size w w' := by
 have HX := am hx
 have HY := am hy
 clear hx hy
 have b1 := below_alloc (Below.refl w.heap.size w) (.cells (cellV x A c A3 c3) 37)
 have b2 := below_alloc b1 (.cells (cellV y B d B3 d3) 37)
 have hsz : (w.alloc (.cells (cellV x A c A3 c3) 37)).heap.size = w.heap.size + 1 := Array.size_push _
 have HBA : Aside0 (((w.alloc (.cells (cellV x A c A3 c3) 37)).alloc (.cells (cellV y B d B3 d3) 37)).heap[w.heap.size]? = some (.cells (cellV x A c A3 c3) 37 (0, 0))) := ⟨((below_alloc (Below.refl _ _) _).block w.heap.size (blk_lt (heap_alloc_new w _))).trans (heap_alloc_new w _)⟩
 have HBB : Aside0 (((w.alloc (.cells (cellV x A c A3 c3) 37)).alloc (.cells (cellV y B d B3 d3) 37)).heap[w.heap.size + 1]? = some (.cells (cellV y B d B3 d3) 37 (0, 0))) := ⟨by have h := heap_alloc_new (w.alloc (.cells (cellV x A c A3 c3) 37)) (.cells (cellV y B d B3 d3) 37); rwa [hsz] at h⟩
 have HB := am b2
 clear b1 b2
 go_enter Tryz.func5, Tryz.ntmps5
 go_wp2_with fail
 clear hsz
 generalize (w.alloc (.cells (cellV x A c A3 c3) 37)).alloc (.cells (cellV y B d B3 d3) 37) = w1 at *
 refine (alive_walk w1).mono ?_
 rintro e w2 ⟨rfl, hb⟩
 have HB_ := am (below_step HB.out hb)
 have HBA_ := am ((hb.block w.heap.size (blk_lt HBA.out)).trans HBA.out)
 have HBB_ := am ((hb.block (w.heap.size + 1) (blk_lt HBB.out)).trans HBB.out)
 clear HB HBA HBB
 have HB := HB_
 have HBA := HBA_
 have HBB := HBB_
 clear HB_ HBA_ HBB_
 clear hb
 have ca0 : w2.cell? ⟨w.heap.size, 0, none⟩ = some (.slice A x.f0.length c) := (blk_cell HBA.out 0).trans rfl
 have cb0 : w2.cell? ⟨w.heap.size + 1, 0, none⟩ = some (.slice B y.f0.length d) := (blk_cell HBB.out 0).trans rfl
 have ca1 : w2.cell? ⟨w.heap.size, 1, none⟩ = some (.bool x.f1.f0) := (blk_cell HBA.out 1).trans rfl
 have cb1 : w2.cell? ⟨w.heap.size + 1, 1, none⟩ = some (.bool y.f1.f0) := (blk_cell HBB.out 1).trans rfl
 have ca2 : w2.cell? ⟨w.heap.size, 2, none⟩ = some (.int .i64 x.f1.f1) := (blk_cell HBA.out 2).trans rfl
 have cb2 : w2.cell? ⟨w.heap.size + 1, 2, none⟩ = some (.int .i64 y.f1.f1) := (blk_cell HBB.out 2).trans rfl
 have ca3 : w2.cell? ⟨w.heap.size, 3, none⟩ = some (.slice A3 x.f1.f2.length c3) := (blk_cell HBA.out 3).trans rfl
 have cb3 : w2.cell? ⟨w.heap.size + 1, 3, none⟩ = some (.slice B3 y.f1.f2.length d3) := (blk_cell HBB.out 3).trans rfl
 go_wp2_with fail
 clear ca0 cb0 ca1 cb1 ca2 cb2 ca3 cb3
 have HS := heap_alloc_new w2 (.cells #[.slice A x.f0.length c, .bool x.f1.f0, .int .i64 x.f1.f1, .slice A3 x.f1.f2.length c3, .slice B y.f0.length d, .bool y.f1.f0, .int .i64 y.f1.f1, .slice B3 y.f1.f2.length d3] 37)
 have hb3 := below_alloc (Below.refl w2.heap.size w2) (.cells #[.slice A x.f0.length c, .bool x.f1.f0, .int .i64 x.f1.f1, .slice A3 x.f1.f2.length c3, .slice B y.f0.length d, .bool y.f1.f0, .int .i64 y.f1.f1, .slice B3 y.f1.f2.length d3] 37)
 have HB_ := am (below_step HB.out hb3)
 have HBA_ := am ((hb3.block w.heap.size (blk_lt HBA.out)).trans HBA.out)
 have HBB_ := am ((hb3.block (w.heap.size + 1) (blk_lt HBB.out)).trans HBB.out)
 clear HB HBA HBB
 have HB := HB_
 have HBA := HBA_
 have HBB := HBB_
 clear HB_ HBA_ HBB_
 clear hb3
 generalize w2.alloc (.cells #[.slice A x.f0.length c, .bool x.f1.f0, .int .i64 x.f1.f1, .slice A3 x.f1.f2.length c3, .slice B y.f0.length d, .bool y.f1.f0, .int .i64 y.f1.f1, .slice B3 y.f1.f2.length d3] 37) = w3 at *
 have hk := two_cells (HX.out.below HB.out) (HY.out.below HB.out) HS
 clear HS
 obtain ⟨ks, hks⟩ := (small_evl [x, y]).some_
 refine (dl28_small.calls ks (some ⟨w2.heap.size, 0, none⟩) 2 [x, y] _ w3 hk (Nat.le_refl 2) hks).mono ?_
 rintro e w4 ⟨rfl, hd4⟩
 have hb4 := hd4.below
 clear hk hks hd4
 have HB_ := am (below_step HB.out hb4)
 have HBA_ := am ((hb4.block w.heap.size (blk_lt HBA.out)).trans HBA.out)
 have HBB_ := am ((hb4.block (w.heap.size + 1) (blk_lt HBB.out)).trans HBB.out)
 clear HB HBA HBB
 have HB := HB_
 have HBA := HBA_
 have HBB := HBB_
 clear HB_ HBA_ HBB_
 clear hb4
 have HSM : Aside0 (smallB [x, y] = smallB [x, y]) := ⟨rfl⟩
 cases hsm : smallB [x, y] with
 | false =>
  go_wp2_with fail
  refine (alive_walk w4).mono ?_
  rintro e w5 ⟨rfl, hb⟩
  have HB5 := am (below_step HB.out hb)
  clear hb
  go_wp2_with fail
  go_ret
  exact ⟨rfl, HB5.out⟩
 | true =>
  have hm2 : smC x = true ∧ smC y = true := by simpa [smallB] using hsm
  have hm3 : (x.f0.length ≤ 20 ∧ ∀ z ∈ x.f0, z.f5.length ≤ 20) ∧ y.f0.length ≤ 20 := by
   have h1 := hm2.1
   have h2 := hm2.2
   simp only [smC, Bool.and_eq_true, decide_eq_true_eq, List.all_eq_true] at h1 h2
   exact ⟨⟨h1.1, h1.2.2⟩, h2.1⟩
  have HM := am hm3
  clear hsm HSM hm2 hm3
  go_wp2_with fail
  obtain ⟨q, s, cyc, dr, ag, lo, li, sp, g1, g4, g3, h1, h2, h3, h4, h5, h6, h7, h8, hMade⟩ := made_eq n
  refine (dr26_Made.calls n _ _ _ _ _ _ _ _ _ _ _ _ _ w4 hMade).mono ?_
  have HN1 := am (near_evl q s (a3 := 60) (a4 := 100) (a5 := 3 * Eg dr cyc) (a10 := li) (a11 := sp) (a12 := 12) g1 g4 g3 h3 h4 h1 h2 (show (0 : Int) ≤ 300000 by decide) (show (300000 : Int) ≤ 400000 by decide) h5 h6 h7 h8)
  have HN2 := am (rnear_evl q s (a3 := 60) (a4 := 100) (a5 := 3 * Eg dr cyc) (a10 := li) (a11 := sp) (a12 := 12) g1 g4 g3 h3 h4 h1 h2 (show (0 : Int) ≤ 300000 by decide) (show (300000 : Int) ≤ 400000 by decide) h5 h6 h7 h8)
  clear g1 g4 g3 h1 h2 h3 h4 h5 h6 h7 h8 hMade
  generalize (madeNet q s).1 = P at *
  generalize (madeNet q s).2 = Q at *
  generalize 3 * Eg dr cyc = wd at *
  generalize 2 * Eg dr cyc = nr at *
  rintro e w5 ⟨vP, vQ, rfl, hP, hQ, hb⟩
  obtain ⟨AP, cP, rfl, hcP, hCP⟩ := Kd.R_reads hP
  obtain ⟨AQ, cQ, rfl, hcQ, hCQ⟩ := Kd.R_reads hQ
  have HB_ := am (below_step HB.out hb)
  have HBA_ := am ((hb.block w.heap.size (blk_lt HBA.out)).trans HBA.out)
  have HBB_ := am ((hb.block (w.heap.size + 1) (blk_lt HBB.out)).trans HBB.out)
  clear HB HBA HBB
  have HB := HB_
  have HBA := HBA_
  have HBB := HBB_
  clear HB_ HBA_ HBB_
  clear hb hP hQ
  go_upto_region 4 with fail
  have hbc := below_alloc (Below.refl w5.heap.size w5) (.cells #[.slice AP P.length cP, .slice AQ Q.length cQ, .int .i64 cyc, .int .i64 60, .int .i64 100, .int .i64 wd, .int .i64 dr, .int .i64 300000, .int .i64 ag, .int .i64 lo, .int .i64 li, .int .i64 sp, .int .i64 12] 25)
  have HBC := am (heap_alloc_new w5 (.cells #[.slice AP P.length cP, .slice AQ Q.length cQ, .int .i64 cyc, .int .i64 60, .int .i64 100, .int .i64 wd, .int .i64 dr, .int .i64 300000, .int .i64 ag, .int .i64 lo, .int .i64 li, .int .i64 sp, .int .i64 12] 25))
  have HN : Aside0 (NetAt (w5.alloc (.cells #[.slice AP P.length cP, .slice AQ Q.length cQ, .int .i64 cyc, .int .i64 60, .int .i64 100, .int .i64 wd, .int .i64 dr, .int .i64 300000, .int .i64 ag, .int .i64 lo, .int .i64 li, .int .i64 sp, .int .i64 12] 25)) P AP cP Q AQ cQ) := ⟨⟨Kd.C_below hCP hbc, hcP, Kd.C_below hCQ hbc, hcQ⟩⟩
  have HB_ := am (below_step HB.out hbc)
  have HBA_ := am ((hbc.block w.heap.size (blk_lt HBA.out)).trans HBA.out)
  have HBB_ := am ((hbc.block (w.heap.size + 1) (blk_lt HBB.out)).trans HBB.out)
  clear HB HBA HBB
  have HB := HB_
  have HBA := HBA_
  have HBB := HBB_
  clear HB_ HBA_ HBB_
  clear hbc hcP hCP hcQ hCQ
  generalize w5.alloc (.cells #[.slice AP P.length cP, .slice AQ Q.length cQ, .int .i64 cyc, .int .i64 60, .int .i64 100, .int .i64 wd, .int .i64 dr, .int .i64 300000, .int .i64 ag, .int .i64 lo, .int .i64 li, .int .i64 sp, .int .i64 12] 25) = w6 at *
  obtain ⟨bc, hbc⟩ : ∃ bc, bc = w5.heap.size := ⟨_, rfl⟩
  rw [← hbc] at HBC
  rw [← hbc]
  clear hbc
  have l0 := HM.out.1.1
  have l1 := HM.out.2
  have a0 := HM.out.1.2
  obtain ⟨k1, s1⟩ := (wspread_evl (l := x.f0) (by omega) x.f1.f0 x.f1.f1 x.f1.f2).some_
  obtain ⟨k2, s2⟩ := (rspread26_evl (l := x.f0) (by omega) x.f1.f0 x.f1.f1 x.f1.f2).some_
  obtain ⟨k3, s3⟩ := (wskew_evl (l := x.f0) (m := y.f0) (by omega) (by omega) x.f1.f0 x.f1.f1 x.f1.f2 y.f1.f0 y.f1.f1 y.f1.f2).some_
  obtain ⟨k4, s4⟩ := (rskew_evl (l := x.f0) (m := y.f0) (by omega) (by omega) x.f1.f0 x.f1.f1 x.f1.f2 y.f1.f0 y.f1.f1 y.f1.f2).some_
  have s5 : watch_Agree.f x.f0 x.f1.f0 x.f1.f1 x.f1.f2 = some (agreeB x.f0) := if_pos ⟨by omega, List.all_eq_true.2 fun z h => decide_eq_true (by have := a0 z h; omega)⟩
  have s6 : dr26_Agree.f x.f0 x.f1.f0 x.f1.f1 x.f1.f2 = some (agreeB x.f0) := if_pos ⟨by omega, List.all_eq_true.2 fun z h => decide_eq_true (by have := a0 z h; omega)⟩
  have s7 : ∀ W : World, NetAt W P AP cP Q AQ cQ → CellAt W x A c A3 c3 → Calls Tryz.prog 11 #[.agg #[.slice AP P.length cP, .slice AQ Q.length cQ, .int .i64 cyc, .int .i64 60, .int .i64 100, .int .i64 wd, .int .i64 dr, .int .i64 300000, .int .i64 ag, .int .i64 lo, .int .i64 li, .int .i64 sp, .int .i64 12], .agg #[.slice A x.f0.length c, .bool x.f1.f0, .int .i64 x.f1.f1, .slice A3 x.f1.f2.length c3]] W fun e w' => e = .returned (.bool (withinV nr x.f0 (begs x.f0 x.f1.f0 x.f1.f1))) ∧ Below W.heap.size W w' := fun W hN hX => within_walk AP cP P AQ cQ Q cyc 60 100 wd dr 300000 ag lo li sp 12 A c x.f0 x.f1.f0 x.f1.f1 A3 c3 x.f1.f2 nr W hN hX (by omega) (fun z h => by have := a0 z h; omega) HN1.out
  obtain ⟨k8, s8⟩ := (rwithin_evl (l := x.f0) (by omega) (fun z h => by have := a0 z h; omega) P Q cyc 60 100 wd dr 300000 ag lo li sp 12 x.f1.f0 x.f1.f1 x.f1.f2 HN2.out).some_
  clear l0 l1 a0 HN1 HN2 HM
  generalize sprd ((syn x.f0).map (·.f3)) = sx at s1 s2
  generalize skewV ((syn x.f0).map (·.f3)) ((syn y.f0).map (·.f3)) = sk at s3 s4
  generalize agreeB x.f0 = qa at s5 s6
  generalize withinV nr x.f0 (begs x.f0 x.f1.f0 x.f1.f1) = qw at s7 s8
  obtain ⟨x1, x2⟩ := sx
  obtain ⟨u1, u2⟩ := sk
  have S1 := am s1
  have S2 := am s2
  have S3 := am s3
  have S4 := am s4
  have S5 := am s5
  have S6 := am s6
  have S7 := am s7
  have S8 := am s8
  clear s1 s2 s3 s4 s5 s6 s7 s8
  have ca0 : w6.cell? ⟨w.heap.size, 0, none⟩ = some (.slice A x.f0.length c) := (blk_cell HBA.out 0).trans rfl
  have cb0 : w6.cell? ⟨w.heap.size + 1, 0, none⟩ = some (.slice B y.f0.length d) := (blk_cell HBB.out 0).trans rfl
  have ca1 : w6.cell? ⟨w.heap.size, 1, none⟩ = some (.bool x.f1.f0) := (blk_cell HBA.out 1).trans rfl
  have cb1 : w6.cell? ⟨w.heap.size + 1, 1, none⟩ = some (.bool y.f1.f0) := (blk_cell HBB.out 1).trans rfl
  have ca2 : w6.cell? ⟨w.heap.size, 2, none⟩ = some (.int .i64 x.f1.f1) := (blk_cell HBA.out 2).trans rfl
  have cb2 : w6.cell? ⟨w.heap.size + 1, 2, none⟩ = some (.int .i64 y.f1.f1) := (blk_cell HBB.out 2).trans rfl
  have ca3 : w6.cell? ⟨w.heap.size, 3, none⟩ = some (.slice A3 x.f1.f2.length c3) := (blk_cell HBA.out 3).trans rfl
  have cb3 : w6.cell? ⟨w.heap.size + 1, 3, none⟩ = some (.slice B3 y.f1.f2.length d3) := (blk_cell HBB.out 3).trans rfl
  go_wp2_with fail
  clear ca0 cb0 ca1 cb1 ca2 cb2 ca3 cb3
  refine (watch_Spread.calls k1 A c x.f0 x.f1.f0 x.f1.f1 A3 c3 x.f1.f2 _ _ w6 (HX.out.below HB.out).r0 (HX.out.below HB.out).c0 (HX.out.below HB.out).r3 (HX.out.below HB.out).c3 S1.out).mono ?_
  rintro e w7 ⟨rfl, hb⟩
  have HB_ := am (below_step HB.out hb)
  have HBA_ := am ((hb.block w.heap.size (blk_lt HBA.out)).trans HBA.out)
  have HBB_ := am ((hb.block (w.heap.size + 1) (blk_lt HBB.out)).trans HBB.out)
  clear HB HBA HBB
  have HB := HB_
  have HBA := HBA_
  have HBB := HBB_
  clear HB_ HBA_ HBB_
  have HBC_ := am ((hb.block bc (blk_lt HBC.out)).trans HBC.out)
  have HN_ := am (HN.out.below hb)
  clear HBC HN
  have HBC := HBC_
  have HN := HN_
  clear HBC_ HN_
  clear hb
  have ca0 : w7.cell? ⟨w.heap.size, 0, none⟩ = some (.slice A x.f0.length c) := (blk_cell HBA.out 0).trans rfl
  have cb0 : w7.cell? ⟨w.heap.size + 1, 0, none⟩ = some (.slice B y.f0.length d) := (blk_cell HBB.out 0).trans rfl
  have ca1 : w7.cell? ⟨w.heap.size, 1, none⟩ = some (.bool x.f1.f0) := (blk_cell HBA.out 1).trans rfl
  have cb1 : w7.cell? ⟨w.heap.size + 1, 1, none⟩ = some (.bool y.f1.f0) := (blk_cell HBB.out 1).trans rfl
  have ca2 : w7.cell? ⟨w.heap.size, 2, none⟩ = some (.int .i64 x.f1.f1) := (blk_cell HBA.out 2).trans rfl
  have cb2 : w7.cell? ⟨w.heap.size + 1, 2, none⟩ = some (.int .i64 y.f1.f1) := (blk_cell HBB.out 2).trans rfl
  have ca3 : w7.cell? ⟨w.heap.size, 3, none⟩ = some (.slice A3 x.f1.f2.length c3) := (blk_cell HBA.out 3).trans rfl
  have cb3 : w7.cell? ⟨w.heap.size + 1, 3, none⟩ = some (.slice B3 y.f1.f2.length d3) := (blk_cell HBB.out 3).trans rfl
  go_wp2_with fail
  clear ca0 cb0 ca1 cb1 ca2 cb2 ca3 cb3
  refine (dr26_Spread.calls k2 A c x.f0 x.f1.f0 x.f1.f1 A3 c3 x.f1.f2 _ _ w7 (HX.out.below HB.out).r0 (HX.out.below HB.out).c0 (HX.out.below HB.out).r3 (HX.out.below HB.out).c3 S2.out).mono ?_
  rintro e w8 ⟨rfl, hb⟩
  have HB_ := am (below_step HB.out hb)
  have HBA_ := am ((hb.block w.heap.size (blk_lt HBA.out)).trans HBA.out)
  have HBB_ := am ((hb.block (w.heap.size + 1) (blk_lt HBB.out)).trans HBB.out)
  clear HB HBA HBB
  have HB := HB_
  have HBA := HBA_
  have HBB := HBB_
  clear HB_ HBA_ HBB_
  have HBC_ := am ((hb.block bc (blk_lt HBC.out)).trans HBC.out)
  have HN_ := am (HN.out.below hb)
  clear HBC HN
  have HBC := HBC_
  have HN := HN_
  clear HBC_ HN_
  clear hb
  have ca0 : w8.cell? ⟨w.heap.size, 0, none⟩ = some (.slice A x.f0.length c) := (blk_cell HBA.out 0).trans rfl
  have cb0 : w8.cell? ⟨w.heap.size + 1, 0, none⟩ = some (.slice B y.f0.length d) := (blk_cell HBB.out 0).trans rfl
  have ca1 : w8.cell? ⟨w.heap.size, 1, none⟩ = some (.bool x.f1.f0) := (blk_cell HBA.out 1).trans rfl
  have cb1 : w8.cell? ⟨w.heap.size + 1, 1, none⟩ = some (.bool y.f1.f0) := (blk_cell HBB.out 1).trans rfl
  have ca2 : w8.cell? ⟨w.heap.size, 2, none⟩ = some (.int .i64 x.f1.f1) := (blk_cell HBA.out 2).trans rfl
  have cb2 : w8.cell? ⟨w.heap.size + 1, 2, none⟩ = some (.int .i64 y.f1.f1) := (blk_cell HBB.out 2).trans rfl
  have ca3 : w8.cell? ⟨w.heap.size, 3, none⟩ = some (.slice A3 x.f1.f2.length c3) := (blk_cell HBA.out 3).trans rfl
  have cb3 : w8.cell? ⟨w.heap.size + 1, 3, none⟩ = some (.slice B3 y.f1.f2.length d3) := (blk_cell HBB.out 3).trans rfl
  go_wp2_with fail
  clear ca0 cb0 ca1 cb1 ca2 cb2 ca3 cb3
  refine (watch_Skew.calls k3 A c x.f0 x.f1.f0 x.f1.f1 A3 c3 x.f1.f2 B d y.f0 y.f1.f0 y.f1.f1 B3 d3 y.f1.f2 _ _ w8 (HX.out.below HB.out).r0 (HX.out.below HB.out).c0 (HX.out.below HB.out).r3 (HX.out.below HB.out).c3 (HY.out.below HB.out).r0 (HY.out.below HB.out).c0 (HY.out.below HB.out).r3 (HY.out.below HB.out).c3 S3.out).mono ?_
  rintro e w9 ⟨rfl, hb⟩
  have HB_ := am (below_step HB.out hb)
  have HBA_ := am ((hb.block w.heap.size (blk_lt HBA.out)).trans HBA.out)
  have HBB_ := am ((hb.block (w.heap.size + 1) (blk_lt HBB.out)).trans HBB.out)
  clear HB HBA HBB
  have HB := HB_
  have HBA := HBA_
  have HBB := HBB_
  clear HB_ HBA_ HBB_
  have HBC_ := am ((hb.block bc (blk_lt HBC.out)).trans HBC.out)
  have HN_ := am (HN.out.below hb)
  clear HBC HN
  have HBC := HBC_
  have HN := HN_
  clear HBC_ HN_
  clear hb
  have ca0 : w9.cell? ⟨w.heap.size, 0, none⟩ = some (.slice A x.f0.length c) := (blk_cell HBA.out 0).trans rfl
  have cb0 : w9.cell? ⟨w.heap.size + 1, 0, none⟩ = some (.slice B y.f0.length d) := (blk_cell HBB.out 0).trans rfl
  have ca1 : w9.cell? ⟨w.heap.size, 1, none⟩ = some (.bool x.f1.f0) := (blk_cell HBA.out 1).trans rfl
  have cb1 : w9.cell? ⟨w.heap.size + 1, 1, none⟩ = some (.bool y.f1.f0) := (blk_cell HBB.out 1).trans rfl
  have ca2 : w9.cell? ⟨w.heap.size, 2, none⟩ = some (.int .i64 x.f1.f1) := (blk_cell HBA.out 2).trans rfl
  have cb2 : w9.cell? ⟨w.heap.size + 1, 2, none⟩ = some (.int .i64 y.f1.f1) := (blk_cell HBB.out 2).trans rfl
  have ca3 : w9.cell? ⟨w.heap.size, 3, none⟩ = some (.slice A3 x.f1.f2.length c3) := (blk_cell HBA.out 3).trans rfl
  have cb3 : w9.cell? ⟨w.heap.size + 1, 3, none⟩ = some (.slice B3 y.f1.f2.length d3) := (blk_cell HBB.out 3).trans rfl
  go_wp2_with fail
  clear ca0 cb0 ca1 cb1 ca2 cb2 ca3 cb3
  refine (dr26_Skew.calls k4 A c x.f0 x.f1.f0 x.f1.f1 A3 c3 x.f1.f2 B d y.f0 y.f1.f0 y.f1.f1 B3 d3 y.f1.f2 _ _ w9 (HX.out.below HB.out).r0 (HX.out.below HB.out).c0 (HX.out.below HB.out).r3 (HX.out.below HB.out).c3 (HY.out.below HB.out).r0 (HY.out.below HB.out).c0 (HY.out.below HB.out).r3 (HY.out.below HB.out).c3 S4.out).mono ?_
  rintro e w10 ⟨rfl, hb⟩
  have HB_ := am (below_step HB.out hb)
  have HBA_ := am ((hb.block w.heap.size (blk_lt HBA.out)).trans HBA.out)
  have HBB_ := am ((hb.block (w.heap.size + 1) (blk_lt HBB.out)).trans HBB.out)
  clear HB HBA HBB
  have HB := HB_
  have HBA := HBA_
  have HBB := HBB_
  clear HB_ HBA_ HBB_
  have HBC_ := am ((hb.block bc (blk_lt HBC.out)).trans HBC.out)
  have HN_ := am (HN.out.below hb)
  clear HBC HN
  have HBC := HBC_
  have HN := HN_
  clear HBC_ HN_
  clear hb
  go_upto_region 8 with fail
  have dd0 : w10.drew.cell? ⟨w.heap.size, 0, none⟩ = some (.slice A x.f0.length c) := (blk_cell HBA.out 0).trans rfl
  have dd1 : w10.drew.cell? ⟨w.heap.size, 1, none⟩ = some (.bool x.f1.f0) := (blk_cell HBA.out 1).trans rfl
  have dd2 : w10.drew.cell? ⟨w.heap.size, 2, none⟩ = some (.int .i64 x.f1.f1) := (blk_cell HBA.out 2).trans rfl
  have dd3 : w10.drew.cell? ⟨w.heap.size, 3, none⟩ = some (.slice A3 x.f1.f2.length c3) := (blk_cell HBA.out 3).trans rfl
  have dd4 : w10.drew.cell? ⟨bc, 0, none⟩ = some (.slice AP P.length cP) := (blk_cell HBC.out 0).trans rfl
  have dd5 : w10.drew.cell? ⟨bc, 1, none⟩ = some (.slice AQ Q.length cQ) := (blk_cell HBC.out 1).trans rfl
  have dd6 : w10.drew.cell? ⟨bc, 2, none⟩ = some (.int .i64 cyc) := (blk_cell HBC.out 2).trans rfl
  have dd7 : w10.drew.cell? ⟨bc, 3, none⟩ = some (.int .i64 60) := (blk_cell HBC.out 3).trans rfl
  have dd8 : w10.drew.cell? ⟨bc, 4, none⟩ = some (.int .i64 100) := (blk_cell HBC.out 4).trans rfl
  have dd9 : w10.drew.cell? ⟨bc, 5, none⟩ = some (.int .i64 wd) := (blk_cell HBC.out 5).trans rfl
  have dd10 : w10.drew.cell? ⟨bc, 6, none⟩ = some (.int .i64 dr) := (blk_cell HBC.out 6).trans rfl
  have dd11 : w10.drew.cell? ⟨bc, 7, none⟩ = some (.int .i64 300000) := (blk_cell HBC.out 7).trans rfl
  have dd12 : w10.drew.cell? ⟨bc, 8, none⟩ = some (.int .i64 ag) := (blk_cell HBC.out 8).trans rfl
  have dd13 : w10.drew.cell? ⟨bc, 9, none⟩ = some (.int .i64 lo) := (blk_cell HBC.out 9).trans rfl
  have dd14 : w10.drew.cell? ⟨bc, 10, none⟩ = some (.int .i64 li) := (blk_cell HBC.out 10).trans rfl
  have dd15 : w10.drew.cell? ⟨bc, 11, none⟩ = some (.int .i64 sp) := (blk_cell HBC.out 11).trans rfl
  have dd16 : w10.drew.cell? ⟨bc, 12, none⟩ = some (.int .i64 12) := (blk_cell HBC.out 12).trans rfl
  have KD := am (Below.refl w10.heap.size w10).drew
  have HX1 := am (HX.out.below HB.out)
  have e1 : (qa == qa) = true := beq_self_eq_true qa
  have e2 : (qw == qw) = true := beq_self_eq_true qw
  have e3 : (x1 == x1) = true := beq_self_eq_true x1
  have e4 : (x2 == x2) = true := beq_self_eq_true x2
  have e5 : (u1 == u1) = true := beq_self_eq_true u1
  have e6 : (u2 == u2) = true := beq_self_eq_true u2
  refine start_ (n := 35) (S := fun w' => w'.cell? ⟨w.heap.size, 0, none⟩ = some (.slice A x.f0.length c) ∧ w'.cell? ⟨w.heap.size, 1, none⟩ = some (.bool x.f1.f0) ∧ w'.cell? ⟨w.heap.size, 2, none⟩ = some (.int .i64 x.f1.f1) ∧ w'.cell? ⟨w.heap.size, 3, none⟩ = some (.slice A3 x.f1.f2.length c3) ∧ w'.cell? ⟨bc, 0, none⟩ = some (.slice AP P.length cP) ∧ w'.cell? ⟨bc, 1, none⟩ = some (.slice AQ Q.length cQ) ∧ w'.cell? ⟨bc, 2, none⟩ = some (.int .i64 cyc) ∧ w'.cell? ⟨bc, 3, none⟩ = some (.int .i64 60) ∧ w'.cell? ⟨bc, 4, none⟩ = some (.int .i64 100) ∧ w'.cell? ⟨bc, 5, none⟩ = some (.int .i64 wd) ∧ w'.cell? ⟨bc, 6, none⟩ = some (.int .i64 dr) ∧ w'.cell? ⟨bc, 7, none⟩ = some (.int .i64 300000) ∧ w'.cell? ⟨bc, 8, none⟩ = some (.int .i64 ag) ∧ w'.cell? ⟨bc, 9, none⟩ = some (.int .i64 lo) ∧ w'.cell? ⟨bc, 10, none⟩ = some (.int .i64 li) ∧ w'.cell? ⟨bc, 11, none⟩ = some (.int .i64 sp) ∧ w'.cell? ⟨bc, 12, none⟩ = some (.int .i64 12)) (ds := []) #[false, false, false, false, false, false, false, false, false, false, false, false, false, false, false, false, false, false, false, false, false, false, false, false, false, false, false, false, false, false, false, false, false, false, false] (by kernel_rfl) rfl rfl ⟨dd0, dd1, dd2, dd3, dd4, dd5, dd6, dd7, dd8, dd9, dd10, dd11, dd12, dd13, dd14, dd15, dd16⟩ (fun hHeld => ?_)
  refine take_ (i := 0) (N := some 50) (v := ?_) (a' := ?_) #[true, false, false, false, false, false, false, false, false, false, false, false, false, false, false, false, false, false, false, false, false, false, false, false, false, false, false, false, false, false, false, false, false, false, false] rfl rfl (by kernel_rfl) (fun _ _ _ h => h) (Or.inl ⟨by rfl, ?_⟩) hHeld ?_ ?_
  rotate_left
  ·rintro w' ⟨s0, s1, s2, s3, s4, s5, s6, s7, s8, s9, s10, s11, s12, s13, s14, s15, s16⟩
   go_simp
   with_reducible rfl
  rotate_left
  ·simp only [Act.put, sAa, sBb, sCc, i64_w, i32_w]
   rfl
  refine take_ (i := 2) (N := some 52) (v := ?_) (a' := ?_) #[true, false, true, false, false, false, false, false, false, false, false, false, false, false, false, false, false, false, false, false, false, false, false, false, false, false, false, false, false, false, false, false, false, false, false] rfl rfl (by kernel_rfl) (fun _ _ _ h => h) (Or.inl ⟨by rfl, ?_⟩) hHeld ?_ ?_
  rotate_left
  ·rintro w' ⟨s0, s1, s2, s3, s4, s5, s6, s7, s8, s9, s10, s11, s12, s13, s14, s15, s16⟩
   go_simp
   with_reducible rfl
  rotate_left
  ·simp only [Act.put, sAa, sBb, sCc, i64_w, i32_w]
   rfl
  refine one_ (i := 1) (N := some 51) #[true, true, true, false, false, false, false, false, false, false, false, false, false, false, false, false, false, false, false, false, false, false, false, false, false, false, false, false, false, false, false, false, false, false, false] rfl rfl (by kernel_rfl) (by decide) (fun K hK => ?_)
  refine goes_ Tryz.func20 (by kernel_rfl) rfl #[.agg #[.slice A x.f0.length c, .bool x.f1.f0, .int .i64 x.f1.f1, .slice A3 x.f1.f2.length c3]] (by rfl) rfl rfl (by simp only [List.map_toArray, List.map_cons, List.map_nil]; rfl) ?_
  with_reducible refine (watch_Agree.calls A c x.f0 x.f1.f0 x.f1.f1 A3 c3 x.f1.f2 _ _ (HX1.out.below KD.out).r0 (HX1.out.below KD.out).c0 (HX1.out.below KD.out).r3 (HX1.out.below KD.out).c3 S5.out).mono ?_
  rintro e w11 ⟨rfl, hbK11⟩
  have K11 := am (below_step KD.out hbK11)
  have da0 := (hbK11.cell (c_lt dd0)).trans dd0
  have da1 := (hbK11.cell (c_lt dd1)).trans dd1
  have da2 := (hbK11.cell (c_lt dd2)).trans dd2
  have da3 := (hbK11.cell (c_lt dd3)).trans dd3
  have da4 := (hbK11.cell (c_lt dd4)).trans dd4
  have da5 := (hbK11.cell (c_lt dd5)).trans dd5
  have da6 := (hbK11.cell (c_lt dd6)).trans dd6
  have da7 := (hbK11.cell (c_lt dd7)).trans dd7
  have da8 := (hbK11.cell (c_lt dd8)).trans dd8
  have da9 := (hbK11.cell (c_lt dd9)).trans dd9
  have da10 := (hbK11.cell (c_lt dd10)).trans dd10
  have da11 := (hbK11.cell (c_lt dd11)).trans dd11
  have da12 := (hbK11.cell (c_lt dd12)).trans dd12
  have da13 := (hbK11.cell (c_lt dd13)).trans dd13
  have da14 := (hbK11.cell (c_lt dd14)).trans dd14
  have da15 := (hbK11.cell (c_lt dd15)).trans dd15
  have da16 := (hbK11.cell (c_lt dd16)).trans dd16
  clear hbK11
  refine ⟨_, rfl, ?_⟩
  refine hK.out _ _ ⟨da0, da1, da2, da3, da4, da5, da6, da7, da8, da9, da10, da11, da12, da13, da14, da15, da16⟩ (fun hHeld => ?_)
  clear hK K
  refine norm_ (a' := ?_) ?_ ?_
  rotate_left
  ·show Act.put _ (some 51) _ = _
   simp only [Act.put, sAa, sBb, sCc, i64_w, i32_w]
   rfl
  refine one_ (i := 3) (N := some 53) #[true, true, true, true, false, false, false, false, false, false, false, false, false, false, false, false, false, false, false, false, false, false, false, false, false, false, false, false, false, false, false, false, false, false, false] rfl rfl (by kernel_rfl) (by decide) (fun K hK => ?_)
  refine goes_ Tryz.func21 (by kernel_rfl) rfl #[.agg #[.slice A x.f0.length c, .bool x.f1.f0, .int .i64 x.f1.f1, .slice A3 x.f1.f2.length c3]] (by rfl) rfl rfl (by simp only [List.map_toArray, List.map_cons, List.map_nil]; rfl) ?_
  with_reducible refine (dr26_Agree.calls A c x.f0 x.f1.f0 x.f1.f1 A3 c3 x.f1.f2 _ _ (HX1.out.below K11.out).r0 (HX1.out.below K11.out).c0 (HX1.out.below K11.out).r3 (HX1.out.below K11.out).c3 S6.out).mono ?_
  rintro e w12 ⟨rfl, hbK12⟩
  have K12 := am (below_step K11.out hbK12)
  have db0 := (hbK12.cell (c_lt da0)).trans da0
  have db1 := (hbK12.cell (c_lt da1)).trans da1
  have db2 := (hbK12.cell (c_lt da2)).trans da2
  have db3 := (hbK12.cell (c_lt da3)).trans da3
  have db4 := (hbK12.cell (c_lt da4)).trans da4
  have db5 := (hbK12.cell (c_lt da5)).trans da5
  have db6 := (hbK12.cell (c_lt da6)).trans da6
  have db7 := (hbK12.cell (c_lt da7)).trans da7
  have db8 := (hbK12.cell (c_lt da8)).trans da8
  have db9 := (hbK12.cell (c_lt da9)).trans da9
  have db10 := (hbK12.cell (c_lt da10)).trans da10
  have db11 := (hbK12.cell (c_lt da11)).trans da11
  have db12 := (hbK12.cell (c_lt da12)).trans da12
  have db13 := (hbK12.cell (c_lt da13)).trans da13
  have db14 := (hbK12.cell (c_lt da14)).trans da14
  have db15 := (hbK12.cell (c_lt da15)).trans da15
  have db16 := (hbK12.cell (c_lt da16)).trans da16
  clear hbK12
  refine ⟨_, rfl, ?_⟩
  refine hK.out _ _ ⟨db0, db1, db2, db3, db4, db5, db6, db7, db8, db9, db10, db11, db12, db13, db14, db15, db16⟩ (fun hHeld => ?_)
  clear hK K
  refine norm_ (a' := ?_) ?_ ?_
  rotate_left
  ·show Act.put _ (some 53) _ = _
   simp only [Act.put, sAa, sBb, sCc, i64_w, i32_w]
   rfl
  refine pure_ (i := 4) (N := some 54) (v := ?_) (a' := ?_) #[true, true, true, true, true, false, false, false, false, false, false, false, false, false, false, false, false, false, false, false, false, false, false, false, false, false, false, false, false, false, false, false, false, false, false] rfl rfl (by kernel_rfl) (fun _ _ _ h => h) (Or.inl ⟨by rfl, ?_⟩) ?_ ?_
  rotate_left
  ·intro w'
   go_simp
   with_reducible rfl
  rotate_left
  ·simp only [Act.put, sAa, sBb, sCc, i64_w, i32_w]
   rfl
  refine pure_ (i := 5) (N := some 55) (v := ?_) (a' := ?_) #[true, true, true, true, true, true, false, false, false, false, false, false, false, false, false, false, false, false, false, false, false, false, false, false, false, false, false, false, false, false, false, false, false, false, false] rfl rfl (by kernel_rfl) (fun _ _ _ h => h) (Or.inl ⟨by rfl, ?_⟩) ?_ ?_
  rotate_left
  ·intro w'
   go_simp
   with_reducible rfl
  rotate_left
  ·simp only [Act.put, sAa, sBb, sCc, i64_w, i32_w]
   rfl
  refine take_ (i := 6) (N := some 56) (v := ?_) (a' := ?_) #[true, true, true, true, true, true, true, false, false, false, false, false, false, false, false, false, false, false, false, false, false, false, false, false, false, false, false, false, false, false, false, false, false, false, false] rfl rfl (by kernel_rfl) (fun _ _ _ h => h) (Or.inl ⟨by rfl, ?_⟩) hHeld ?_ ?_
  rotate_left
  ·rintro w' ⟨s0, s1, s2, s3, s4, s5, s6, s7, s8, s9, s10, s11, s12, s13, s14, s15, s16⟩
   go_simp
   with_reducible rfl
  rotate_left
  ·simp only [Act.put, sAa, sBb, sCc, i64_w, i32_w]
   rfl
  refine take_ (i := 7) (N := some 57) (v := ?_) (a' := ?_) #[true, true, true, true, true, true, true, true, false, false, false, false, false, false, false, false, false, false, false, false, false, false, false, false, false, false, false, false, false, false, false, false, false, false, false] rfl rfl (by kernel_rfl) (fun _ _ _ h => h) (Or.inl ⟨by rfl, ?_⟩) hHeld ?_ ?_
  rotate_left
  ·rintro w' ⟨s0, s1, s2, s3, s4, s5, s6, s7, s8, s9, s10, s11, s12, s13, s14, s15, s16⟩
   go_simp
   with_reducible rfl
  rotate_left
  ·simp only [Act.put, sAa, sBb, sCc, i64_w, i32_w]
   rfl
  refine take_ (i := 9) (N := some 59) (v := ?_) (a' := ?_) #[true, true, true, true, true, true, true, true, false, true, false, false, false, false, false, false, false, false, false, false, false, false, false, false, false, false, false, false, false, false, false, false, false, false, false] rfl rfl (by kernel_rfl) (fun _ _ _ h => h) (Or.inl ⟨by rfl, ?_⟩) hHeld ?_ ?_
  rotate_left
  ·rintro w' ⟨s0, s1, s2, s3, s4, s5, s6, s7, s8, s9, s10, s11, s12, s13, s14, s15, s16⟩
   go_simp
   with_reducible rfl
  rotate_left
  ·simp only [Act.put, sAa, sBb, sCc, i64_w, i32_w]
   rfl
  refine take_ (i := 10) (N := some 60) (v := ?_) (a' := ?_) #[true, true, true, true, true, true, true, true, false, true, true, false, false, false, false, false, false, false, false, false, false, false, false, false, false, false, false, false, false, false, false, false, false, false, false] rfl rfl (by kernel_rfl) (fun _ _ _ h => h) (Or.inl ⟨by rfl, ?_⟩) hHeld ?_ ?_
  rotate_left
  ·rintro w' ⟨s0, s1, s2, s3, s4, s5, s6, s7, s8, s9, s10, s11, s12, s13, s14, s15, s16⟩
   go_simp
   with_reducible rfl
  rotate_left
  ·simp only [Act.put, sAa, sBb, sCc, i64_w, i32_w]
   rfl
  refine one_ (i := 8) (N := some 58) #[true, true, true, true, true, true, true, true, true, true, true, false, false, false, false, false, false, false, false, false, false, false, false, false, false, false, false, false, false, false, false, false, false, false, false] rfl rfl (by kernel_rfl) (by decide) (fun K hK => ?_)
  refine goes_ Tryz.func11 (by kernel_rfl) rfl #[.agg #[.slice AP P.length cP, .slice AQ Q.length cQ, .int .i64 cyc, .int .i64 60, .int .i64 100, .int .i64 wd, .int .i64 dr, .int .i64 300000, .int .i64 ag, .int .i64 lo, .int .i64 li, .int .i64 sp, .int .i64 12], .agg #[.slice A x.f0.length c, .bool x.f1.f0, .int .i64 x.f1.f1, .slice A3 x.f1.f2.length c3]] (by rfl) rfl rfl (by simp only [List.map_toArray, List.map_cons, List.map_nil]; rfl) ?_
  with_reducible refine (S7.out _ (HN.out.below K12.out) (HX1.out.below K12.out)).mono ?_
  rintro e w13 ⟨rfl, hbK13⟩
  have K13 := am (below_step K12.out hbK13)
  have dc0 := (hbK13.cell (c_lt db0)).trans db0
  have dc1 := (hbK13.cell (c_lt db1)).trans db1
  have dc2 := (hbK13.cell (c_lt db2)).trans db2
  have dc3 := (hbK13.cell (c_lt db3)).trans db3
  have dc4 := (hbK13.cell (c_lt db4)).trans db4
  have dc5 := (hbK13.cell (c_lt db5)).trans db5
  have dc6 := (hbK13.cell (c_lt db6)).trans db6
  have dc7 := (hbK13.cell (c_lt db7)).trans db7
  have dc8 := (hbK13.cell (c_lt db8)).trans db8
  have dc9 := (hbK13.cell (c_lt db9)).trans db9
  have dc10 := (hbK13.cell (c_lt db10)).trans db10
  have dc11 := (hbK13.cell (c_lt db11)).trans db11
  have dc12 := (hbK13.cell (c_lt db12)).trans db12
  have dc13 := (hbK13.cell (c_lt db13)).trans db13
  have dc14 := (hbK13.cell (c_lt db14)).trans db14
  have dc15 := (hbK13.cell (c_lt db15)).trans db15
  have dc16 := (hbK13.cell (c_lt db16)).trans db16
  clear hbK13
  refine ⟨_, rfl, ?_⟩
  refine hK.out _ _ ⟨dc0, dc1, dc2, dc3, dc4, dc5, dc6, dc7, dc8, dc9, dc10, dc11, dc12, dc13, dc14, dc15, dc16⟩ (fun hHeld => ?_)
  clear hK K
  refine norm_ (a' := ?_) ?_ ?_
  rotate_left
  ·show Act.put _ (some 58) _ = _
   simp only [Act.put, sAa, sBb, sCc, i64_w, i32_w]
   rfl
  refine one_ (i := 11) (N := some 61) #[true, true, true, true, true, true, true, true, true, true, true, true, false, false, false, false, false, false, false, false, false, false, false, false, false, false, false, false, false, false, false, false, false, false, false] rfl rfl (by kernel_rfl) (by decide) (fun K hK => ?_)
  refine goes_ Tryz.func12 (by kernel_rfl) rfl #[.agg #[.slice AP P.length cP, .slice AQ Q.length cQ, .int .i64 cyc, .int .i64 60, .int .i64 100, .int .i64 wd, .int .i64 dr, .int .i64 300000, .int .i64 ag, .int .i64 lo, .int .i64 li, .int .i64 sp, .int .i64 12], .agg #[.slice A x.f0.length c, .bool x.f1.f0, .int .i64 x.f1.f1, .slice A3 x.f1.f2.length c3]] (by rfl) rfl rfl (by simp only [List.map_toArray, List.map_cons, List.map_nil]; rfl) ?_
  with_reducible refine (dr26_Within.calls k8 AP cP P AQ cQ Q cyc 60 100 wd dr 300000 ag lo li sp 12 A c x.f0 x.f1.f0 x.f1.f1 A3 c3 x.f1.f2 _ _ (HN.out.below K13.out).p (HN.out.below K13.out).cp (HN.out.below K13.out).q (HN.out.below K13.out).cq (HX1.out.below K13.out).r0 (HX1.out.below K13.out).c0 (HX1.out.below K13.out).r3 (HX1.out.below K13.out).c3 S8.out).mono ?_
  rintro e w14 ⟨rfl, hbK14⟩
  have K14 := am (below_step K13.out hbK14)
  have de0 := (hbK14.cell (c_lt dc0)).trans dc0
  have de1 := (hbK14.cell (c_lt dc1)).trans dc1
  have de2 := (hbK14.cell (c_lt dc2)).trans dc2
  have de3 := (hbK14.cell (c_lt dc3)).trans dc3
  have de4 := (hbK14.cell (c_lt dc4)).trans dc4
  have de5 := (hbK14.cell (c_lt dc5)).trans dc5
  have de6 := (hbK14.cell (c_lt dc6)).trans dc6
  have de7 := (hbK14.cell (c_lt dc7)).trans dc7
  have de8 := (hbK14.cell (c_lt dc8)).trans dc8
  have de9 := (hbK14.cell (c_lt dc9)).trans dc9
  have de10 := (hbK14.cell (c_lt dc10)).trans dc10
  have de11 := (hbK14.cell (c_lt dc11)).trans dc11
  have de12 := (hbK14.cell (c_lt dc12)).trans dc12
  have de13 := (hbK14.cell (c_lt dc13)).trans dc13
  have de14 := (hbK14.cell (c_lt dc14)).trans dc14
  have de15 := (hbK14.cell (c_lt dc15)).trans dc15
  have de16 := (hbK14.cell (c_lt dc16)).trans dc16
  clear hbK14
  refine ⟨_, rfl, ?_⟩
  refine hK.out _ _ ⟨de0, de1, de2, de3, de4, de5, de6, de7, de8, de9, de10, de11, de12, de13, de14, de15, de16⟩ (fun hHeld => ?_)
  clear hK K
  refine norm_ (a' := ?_) ?_ ?_
  rotate_left
  ·show Act.put _ (some 61) _ = _
   simp only [Act.put, sAa, sBb, sCc, i64_w, i32_w]
   rfl
  refine pure_ (i := 12) (N := some 62) (v := ?_) (a' := ?_) #[true, true, true, true, true, true, true, true, true, true, true, true, true, false, false, false, false, false, false, false, false, false, false, false, false, false, false, false, false, false, false, false, false, false, false] rfl rfl (by kernel_rfl) (fun _ _ _ h => h) (Or.inl ⟨by rfl, ?_⟩) ?_ ?_
  rotate_left
  ·intro w'
   go_simp
   with_reducible rfl
  rotate_left
  ·simp only [Act.put, sAa, sBb, sCc, i64_w, i32_w]
   rfl
  refine pure_ (i := 13) (N := some 63) (v := ?_) (a' := ?_) #[true, true, true, true, true, true, true, true, true, true, true, true, true, true, false, false, false, false, false, false, false, false, false, false, false, false, false, false, false, false, false, false, false, false, false] rfl rfl (by kernel_rfl) (fun _ _ _ h => h) (Or.inl ⟨by rfl, ?_⟩) ?_ ?_
  rotate_left
  ·intro w'
   go_simp
   with_reducible rfl
  rotate_left
  ·simp only [Act.put, sAa, sBb, sCc, i64_w, i32_w]
   rfl
  refine pure_ (i := 14) (N := some 64) (v := ?_) (a' := ?_) #[true, true, true, true, true, true, true, true, true, true, true, true, true, true, true, false, false, false, false, false, false, false, false, false, false, false, false, false, false, false, false, false, false, false, false] rfl rfl (by kernel_rfl) (fun _ _ _ h => h) (Or.inl ⟨by rfl, ?_⟩) ?_ ?_
  rotate_left
  ·intro w'
   go_simp
   with_reducible rfl
  rotate_left
  ·simp only [Act.put, sAa, sBb, sCc, i64_w, i32_w]
   rfl
  refine pure_ (i := 15) (N := some 65) (v := ?_) (a' := ?_) #[true, true, true, true, true, true, true, true, true, true, true, true, true, true, true, true, false, false, false, false, false, false, false, false, false, false, false, false, false, false, false, false, false, false, false] rfl rfl (by kernel_rfl) (fun _ _ _ h => h) (Or.inl ⟨by rfl, ?_⟩) ?_ ?_
  rotate_left
  ·intro w'
   go_simp
   with_reducible rfl
  rotate_left
  ·simp only [Act.put, sAa, sBb, sCc, i64_w, i32_w]
   rfl
  refine pure_ (i := 16) (N := some 66) (v := ?_) (a' := ?_) #[true, true, true, true, true, true, true, true, true, true, true, true, true, true, true, true, true, false, false, false, false, false, false, false, false, false, false, false, false, false, false, false, false, false, false] rfl rfl (by kernel_rfl) (fun _ _ _ h => h) (Or.inl ⟨by rfl, ?_⟩) ?_ ?_
  rotate_left
  ·intro w'
   go_simp
   with_reducible rfl
  rotate_left
  ·simp only [Act.put, sAa, sBb, sCc, i64_w, i32_w]
   rfl
  refine pure_ (i := 17) (N := some 67) (v := ?_) (a' := ?_) #[true, true, true, true, true, true, true, true, true, true, true, true, true, true, true, true, true, true, false, false, false, false, false, false, false, false, false, false, false, false, false, false, false, false, false] rfl rfl (by kernel_rfl) (fun _ _ _ h => h) (Or.inl ⟨by rfl, ?_⟩) ?_ ?_
  rotate_left
  ·intro w'
   go_simp
   with_reducible rfl
  rotate_left
  ·simp only [Act.put, sAa, sBb, sCc, i64_w, i32_w]
   rfl
  refine pure_ (i := 18) (N := some 68) (v := ?_) (a' := ?_) #[true, true, true, true, true, true, true, true, true, true, true, true, true, true, true, true, true, true, true, false, false, false, false, false, false, false, false, false, false, false, false, false, false, false, false] rfl rfl (by kernel_rfl) (fun _ _ _ h => h) (Or.inl ⟨by rfl, ?_⟩) ?_ ?_
  rotate_left
  ·intro w'
   go_simp
   with_reducible rfl
  rotate_left
  ·simp only [Act.put, sAa, sBb, sCc, i64_w, i32_w]
   rfl
  refine pure_ (i := 19) (N := some 69) (v := ?_) (a' := ?_) #[true, true, true, true, true, true, true, true, true, true, true, true, true, true, true, true, true, true, true, true, false, false, false, false, false, false, false, false, false, false, false, false, false, false, false] rfl rfl (by kernel_rfl) (fun _ _ _ h => h) (Or.inl ⟨by rfl, ?_⟩) ?_ ?_
  rotate_left
  ·intro w'
   go_simp
   with_reducible rfl
  rotate_left
  ·simp only [Act.put, sAa, sBb, sCc, i64_w, i32_w]
   rfl
  refine pure_ (i := 20) (N := some 70) (v := ?_) (a' := ?_) #[true, true, true, true, true, true, true, true, true, true, true, true, true, true, true, true, true, true, true, true, true, false, false, false, false, false, false, false, false, false, false, false, false, false, false] rfl rfl (by kernel_rfl) (fun _ _ _ h => h) (Or.inl ⟨by rfl, ?_⟩) ?_ ?_
  rotate_left
  ·intro w'
   go_simp
   with_reducible rfl
  rotate_left
  ·simp only [Act.put, sAa, sBb, sCc, i64_w, i32_w]
   rfl
  refine pure_ (i := 21) (N := some 71) (v := ?_) (a' := ?_) #[true, true, true, true, true, true, true, true, true, true, true, true, true, true, true, true, true, true, true, true, true, true, false, false, false, false, false, false, false, false, false, false, false, false, false] rfl rfl (by kernel_rfl) (fun _ _ _ h => h) (Or.inl ⟨by rfl, ?_⟩) ?_ ?_
  rotate_left
  ·intro w'
   go_simp
   with_reducible rfl
  rotate_left
  ·simp only [Act.put, sAa, sBb, sCc, i64_w, i32_w]
   rfl
  refine pure_ (i := 22) (N := some 72) (v := ?_) (a' := ?_) #[true, true, true, true, true, true, true, true, true, true, true, true, true, true, true, true, true, true, true, true, true, true, true, false, false, false, false, false, false, false, false, false, false, false, false] rfl rfl (by kernel_rfl) (fun _ _ _ h => h) (Or.inl ⟨by rfl, ?_⟩) ?_ ?_
  rotate_left
  ·intro w'
   go_simp
   with_reducible rfl
  rotate_left
  ·simp only [Act.put, sAa, sBb, sCc, i64_w, i32_w]
   rfl
  refine pure_ (i := 23) (N := some 73) (v := ?_) (a' := ?_) #[true, true, true, true, true, true, true, true, true, true, true, true, true, true, true, true, true, true, true, true, true, true, true, true, false, false, false, false, false, false, false, false, false, false, false] rfl rfl (by kernel_rfl) (fun _ _ _ h => h) (Or.inl ⟨by rfl, ?_⟩) ?_ ?_
  rotate_left
  ·intro w'
   go_simp
   with_reducible rfl
  rotate_left
  ·simp only [Act.put, sAa, sBb, sCc, i64_w, i32_w]
   rfl
  refine pure_ (i := 24) (N := some 74) (v := ?_) (a' := ?_) #[true, true, true, true, true, true, true, true, true, true, true, true, true, true, true, true, true, true, true, true, true, true, true, true, true, false, false, false, false, false, false, false, false, false, false] rfl rfl (by kernel_rfl) (fun _ _ _ h => h) (Or.inl ⟨by rfl, ?_⟩) ?_ ?_
  rotate_left
  ·intro w'
   go_simp
   with_reducible rfl
  rotate_left
  ·simp only [Act.put, sAa, sBb, sCc, i64_w, i32_w]
   rfl
  refine pure_ (i := 25) (N := some 75) (v := ?_) (a' := ?_) #[true, true, true, true, true, true, true, true, true, true, true, true, true, true, true, true, true, true, true, true, true, true, true, true, true, true, false, false, false, false, false, false, false, false, false] rfl rfl (by kernel_rfl) (fun _ _ _ h => h) (Or.inl ⟨by rfl, ?_⟩) ?_ ?_
  rotate_left
  ·intro w'
   go_simp
   with_reducible rfl
  rotate_left
  ·simp only [Act.put, sAa, sBb, sCc, i64_w, i32_w]
   rfl
  refine pure_ (i := 26) (N := some 76) (v := ?_) (a' := ?_) #[true, true, true, true, true, true, true, true, true, true, true, true, true, true, true, true, true, true, true, true, true, true, true, true, true, true, true, false, false, false, false, false, false, false, false] rfl rfl (by kernel_rfl) (fun _ _ _ h => h) (Or.inl ⟨by rfl, ?_⟩) ?_ ?_
  rotate_left
  ·intro w'
   go_simp
   with_reducible rfl
  rotate_left
  ·simp only [Act.put, sAa, sBb, sCc, i64_w, i32_w]
   rfl
  refine pure_ (i := 27) (N := some 77) (v := ?_) (a' := ?_) #[true, true, true, true, true, true, true, true, true, true, true, true, true, true, true, true, true, true, true, true, true, true, true, true, true, true, true, true, false, false, false, false, false, false, false] rfl rfl (by kernel_rfl) (fun _ _ _ h => h) (Or.inl ⟨by rfl, ?_⟩) ?_ ?_
  rotate_left
  ·intro w'
   go_simp
   with_reducible rfl
  rotate_left
  ·simp only [Act.put, sAa, sBb, sCc, i64_w, i32_w]
   rfl
  refine pure_ (i := 28) (N := some 78) (v := ?_) (a' := ?_) #[true, true, true, true, true, true, true, true, true, true, true, true, true, true, true, true, true, true, true, true, true, true, true, true, true, true, true, true, true, false, false, false, false, false, false] rfl rfl (by kernel_rfl) (fun _ _ _ h => h) (Or.inl ⟨by rfl, ?_⟩) ?_ ?_
  rotate_left
  ·intro w'
   go_simp
   with_reducible rfl
  rotate_left
  ·simp only [Act.put, sAa, sBb, sCc, i64_w, i32_w]
   rfl
  refine pure_ (i := 29) (N := some 79) (v := ?_) (a' := ?_) #[true, true, true, true, true, true, true, true, true, true, true, true, true, true, true, true, true, true, true, true, true, true, true, true, true, true, true, true, true, true, false, false, false, false, false] rfl rfl (by kernel_rfl) (fun _ _ _ h => h) (Or.inl ⟨by rfl, ?_⟩) ?_ ?_
  rotate_left
  ·intro w'
   go_simp
   with_reducible rfl
  rotate_left
  ·simp only [Act.put, sAa, sBb, sCc, i64_w, i32_w]
   rfl
  refine pure_ (i := 30) (N := some 80) (v := ?_) (a' := ?_) #[true, true, true, true, true, true, true, true, true, true, true, true, true, true, true, true, true, true, true, true, true, true, true, true, true, true, true, true, true, true, true, false, false, false, false] rfl rfl (by kernel_rfl) (fun _ _ _ h => h) (Or.inl ⟨by rfl, ?_⟩) ?_ ?_
  rotate_left
  ·intro w'
   go_simp
   with_reducible rfl
  rotate_left
  ·simp only [Act.put, sAa, sBb, sCc, i64_w, i32_w]
   rfl
  refine pure_ (i := 31) (N := some 81) (v := ?_) (a' := ?_) #[true, true, true, true, true, true, true, true, true, true, true, true, true, true, true, true, true, true, true, true, true, true, true, true, true, true, true, true, true, true, true, true, false, false, false] rfl rfl (by kernel_rfl) (fun _ _ _ h => h) (Or.inl ⟨by rfl, ?_⟩) ?_ ?_
  rotate_left
  ·intro w'
   go_simp
   with_reducible rfl
  rotate_left
  ·simp only [Act.put, sAa, sBb, sCc, i64_w, i32_w]
   rfl
  refine pure_ (i := 32) (N := some 82) (v := ?_) (a' := ?_) #[true, true, true, true, true, true, true, true, true, true, true, true, true, true, true, true, true, true, true, true, true, true, true, true, true, true, true, true, true, true, true, true, true, false, false] rfl rfl (by kernel_rfl) (fun _ _ _ h => h) (Or.inl ⟨by rfl, ?_⟩) ?_ ?_
  rotate_left
  ·intro w'
   go_simp
   with_reducible rfl
  rotate_left
  ·simp only [Act.put, sAa, sBb, sCc, i64_w, i32_w]
   rfl
  refine pure_ (i := 33) (N := some 83) (v := ?_) (a' := ?_) #[true, true, true, true, true, true, true, true, true, true, true, true, true, true, true, true, true, true, true, true, true, true, true, true, true, true, true, true, true, true, true, true, true, true, false] rfl rfl (by kernel_rfl) (fun _ _ _ h => h) (Or.inl ⟨by rfl, ?_⟩) ?_ ?_
  rotate_left
  ·intro w'
   go_simp
   with_reducible rfl
  rotate_left
  ·simp only [Act.put, sAa, sBb, sCc, i64_w, i32_w]
   rfl
  refine pure_ (i := 34) (N := some 6) (v := ?_) (a' := ?_) #[true, true, true, true, true, true, true, true, true, true, true, true, true, true, true, true, true, true, true, true, true, true, true, true, true, true, true, true, true, true, true, true, true, true, true] rfl rfl (by kernel_rfl) (fun _ _ _ h => h) (Or.inl ⟨by rfl, ?_⟩) ?_ ?_
  rotate_left
  ·intro w'
   go_simp
   with_reducible rfl
  rotate_left
  ·simp only [Act.put, sAa, sBb, sCc, i64_w, i32_w]
   rfl
  refine done_ (by kernel_rfl) ?_
  try go_wp2_with fail
  go_ret
  exact ⟨rfl, below_step HB.out K14.out⟩
end Go.Proofs.YtbefbhghmommhaaGreatDoor.MWo
