/- Texts of this claim, laid together by a program (wip/g/merge5.py): Hj. -/
import Derived.Test.YtbefbhghmommhaaGreatDoorZWd13
import Derived.Test.YtbefbhghmommhaaGreatDoorZWd4
import Derived.Test.YtbefbhghmommhaaGreatDoorZWd17
set_option linter.unusedVariables false
set_option linter.unusedSimpArgs false
namespace Go.Proofs.YtbefbhghmommhaaGreatDoor.MWo
open Go.RowKit Go.Proofs.YtbefbhghmommhaaGreatDoorW.PrintWords Go.Proofs.YtbefbhghmommhaaGreatDoorW.PrintLast Go.Proofs.YtbefbhghmommhaaGreatDoorW.PrintMore
attribute [local go_sem] max2_int min2_int max_two min_two
set_option maxHeartbeats 8000000 in
set_option maxRecDepth 10000 in
theorem joined_walk (bc g cP c1 B : Nat) (A1 : Option Addr) (P : List S68) (L : List S71) (a2 a3 a4 a5 a6 a7 a8 a9 a10 a11 a12 a b x y m n : Int) (w : World)
  (ho : w.heap[bc]? = some (.cells #[.slice (some ⟨g, 0, none⟩) P.length cP, .slice A1 L.length c1, .int .i64 a2, .int .i64 a3, .int .i64 a4, .int .i64 a5, .int .i64 a6, .int .i64 a7, .int .i64 a8, .int .i64 a9, .int .i64 a10, .int .i64 a11, .int .i64 a12] 25)) (hP : PB w g cP P) (hL : Kd.R k71 71 w B (fun _ => True) (.slice A1 L.length c1) L) (hBc : B ≤ bc) (hBg : B ≤ g)
  (ha0 : 0 ≤ a) (ha1 : a < P.length) (hb0 : 0 ≤ b) (hb1 : b < P.length)
  (hx : dr26_ports.f 100 P L a2 a3 a4 a5 a6 a7 a8 a9 a10 a11 a12 a = some x) (hy : dr26_ports.f 100 P L a2 a3 a4 a5 a6 a7 a8 a9 a10 a11 a12 b = some y) (hx0 : 0 ≤ x) (hx1 : x ≤ 100) (hy0 : 0 ≤ y) (hy1 : y ≤ 100)
  (hm : (if (rd_T68 P a).f0 < x + 6 then x + 6 else (rd_T68 P a).f0) = m) (hn : (if (rd_T68 (P.set a.toNat ⟨m, (rd_T68 P a).f1⟩) b).f0 < y + 6 then y + 6 else (rd_T68 (P.set a.toNat ⟨m, (rd_T68 P a).f1⟩) b).f0) = n) :
  Calls Tryz.prog 37 #[.pointer (some ⟨bc, 0, none⟩), .int .i64 a, .int .i64 b] w fun e w' => e = .returned (.agg #[.int .i64 a, .int .i64 b, .int .i64 x, .int .i64 (x + 1), .int .i64 y, .int .i64 (y + 1)]) ∧
   w'.heap[bc]? = some (.cells #[.slice (some ⟨g, 0, none⟩) P.length cP, .slice A1 L.length c1, .int .i64 a2, .int .i64 a3, .int .i64 a4, .int .i64 a5, .int .i64 a6, .int .i64 a7, .int .i64 a8, .int .i64 a9, .int .i64 a10, .int .i64 a11, .int .i64 a12] 25) ∧ PB w' g cP ((P.set a.toNat ⟨m, (rd_T68 P a).f1⟩).set b.toNat ⟨n, (rd_T68 (P.set a.toNat ⟨m, (rd_T68 P a).f1⟩) b).f1⟩) ∧ Kd.R k71 71 w' B (fun _ => True) (.slice A1 L.length c1) L ∧ Below B w w' ∧ ∀ k, k < w.heap.size → k ≠ g → w'.heap[k]? = w.heap[k]? := by
 have HO := am ho
 have HP := am hP
 have HL := am hL
 have HG : Aside0 (g < w.heap.size ∧ bc < w.heap.size ∧ g ≠ bc) := by
  obtain ⟨cur, h1, _⟩ := hP
  refine ⟨blk_lt h1, blk_lt ho, ?_⟩
  rintro rfl
  rw [h1] at ho
  injection ho with ho
  injection ho with _ ho _
  exact absurd ho (by decide)
 have HX := am hx
 have HY := am hy
 have HXY := am (show 0 ≤ x ∧ x ≤ 100 ∧ 0 ≤ y ∧ y ≤ 100 from ⟨hx0, hx1, hy0, hy1⟩)
 have Hm := am hm
 have Hn := am hn
 have HBB := am (show B ≤ bc ∧ B ≤ g from ⟨hBc, hBg⟩)
 have HA := am (show (0 ≤ a ∧ a < (P.length : Int)) ∧ 0 ≤ b ∧ b < (P.length : Int) from ⟨⟨ha0, ha1⟩, hb0, hb1⟩)
 have hwx : wrap64 (x + 1) = x + 1 := by unfold wrap64; omega
 have hwy : wrap64 (y + 1) = y + 1 := by unfold wrap64; omega
 have hwx6 : wrap64 (x + 6) = x + 6 := by unfold wrap64; omega
 have hwy6 : wrap64 (y + 6) = y + 6 := by unfold wrap64; omega
 clear ho hP hL hx hy hx0 hx1 hy0 hy1 hm hn hBc hBg ha0 ha1 hb0 hb1
 go_enter Tryz.func37, Tryz.ntmps37
 go_upto_region 2 with fail
 have hCP := am (Kd.R_reads' (HP.out.to_R (ok := fun _ => True) HBB.out.2 trivial)).2
 have hCL := am (Kd.R_reads' HL.out).2
 have hZ0 : (w.alloc (.cells #[.int .i64 0, .int .i64 0, .int .i64 0, .int .i64 0, .int .i64 0, .int .i64 0] 71)).heap[w.heap.size]? = some (.cells #[.int .i64 0, .int .i64 0, .int .i64 0, .int .i64 0, .int .i64 0, .int .i64 0] 71) := heap_alloc_new _ _
 have HZ1 : Aside0 (((w.alloc (.cells #[.int .i64 0, .int .i64 0, .int .i64 0, .int .i64 0, .int .i64 0, .int .i64 0] 71)).alloc (.cells #[.int .i64 a, .int .i64 b, .int .i64 0, .int .i64 0, .int .i64 0, .int .i64 0] 71)).heap[w.heap.size]? = some (.cells #[.int .i64 0, .int .i64 0, .int .i64 0, .int .i64 0, .int .i64 0, .int .i64 0] 71)) := ⟨((below_alloc (Below.refl _ (w.alloc (.cells #[.int .i64 0, .int .i64 0, .int .i64 0, .int .i64 0, .int .i64 0, .int .i64 0] 71))) _).block _ (blk_lt hZ0)).trans hZ0⟩
 have HL1 : Aside0 (((w.alloc (.cells #[.int .i64 0, .int .i64 0, .int .i64 0, .int .i64 0, .int .i64 0, .int .i64 0] 71)).alloc (.cells #[.int .i64 a, .int .i64 b, .int .i64 0, .int .i64 0, .int .i64 0, .int .i64 0] 71)).heap[w.heap.size + 1]? = some (.cells #[.int .i64 a, .int .i64 b, .int .i64 0, .int .i64 0, .int .i64 0, .int .i64 0] 71)) := ⟨by have := heap_alloc_new (w.alloc (.cells #[.int .i64 0, .int .i64 0, .int .i64 0, .int .i64 0, .int .i64 0, .int .i64 0] 71)) (.cells #[.int .i64 a, .int .i64 b, .int .i64 0, .int .i64 0, .int .i64 0, .int .i64 0] 71); simpa using this⟩
 have HB1 := am (below_alloc (below_alloc (Below.refl w.heap.size w) (Obj.cells #[.int .i64 0, .int .i64 0, .int .i64 0, .int .i64 0, .int .i64 0, .int .i64 0] 71)) (Obj.cells #[.int .i64 a, .int .i64 b, .int .i64 0, .int .i64 0, .int .i64 0, .int .i64 0] 71))
 generalize (w.alloc (.cells #[.int .i64 0, .int .i64 0, .int .i64 0, .int .i64 0, .int .i64 0, .int .i64 0] 71)).alloc (.cells #[.int .i64 a, .int .i64 b, .int .i64 0, .int .i64 0, .int .i64 0, .int .i64 0] 71) = w1 at *
 clear hZ0
 obtain ⟨bl, hbl⟩ : ∃ bl, bl = w.heap.size + 1 := ⟨_, rfl⟩
 obtain ⟨bz, hbz⟩ : ∃ bz, bz = w.heap.size := ⟨_, rfl⟩
 rw [← hbl, ← hbz]
 rw [← hbl] at HL1
 rw [← hbz] at HZ1
 have HNE : Aside0 (bz ≠ bl ∧ w.heap.size ≤ bl ∧ w.heap.size ≤ bz ∧ bl ≠ bc ∧ bz ≠ bc ∧ bl ≠ g ∧ bz ≠ g) := ⟨by have := HG.out; omega⟩
 clear hbl hbz
 have HBd := am (below_drew HB1.out)
 have HOd : Aside0 (w1.drew.heap[bc]? = some (.cells #[.slice (some ⟨g, 0, none⟩) P.length cP, .slice A1 L.length c1, .int .i64 a2, .int .i64 a3, .int .i64 a4, .int .i64 a5, .int .i64 a6, .int .i64 a7, .int .i64 a8, .int .i64 a9, .int .i64 a10, .int .i64 a11, .int .i64 a12] 25)) := ⟨(HBd.out.block bc HG.out.2.1).trans HO.out⟩
 have HLd : Aside0 (w1.drew.heap[bl]? = some (.cells #[.int .i64 a, .int .i64 b, .int .i64 0, .int .i64 0, .int .i64 0, .int .i64 0] 71)) := ⟨HL1.out⟩
 have HZd : Aside0 (w1.drew.heap[bz]? = some (.cells #[.int .i64 0, .int .i64 0, .int .i64 0, .int .i64 0, .int .i64 0, .int .i64 0] 71)) := ⟨HZ1.out⟩
 have d0 : w1.drew.cell? ⟨bc, 0, none⟩ = some (.slice (some ⟨g, 0, none⟩) P.length cP) := (blk_cell HOd.out 0).trans rfl
 have d1 : w1.drew.cell? ⟨bc, 1, none⟩ = some (.slice A1 L.length c1) := (blk_cell HOd.out 1).trans rfl
 have d2 : w1.drew.cell? ⟨bc, 2, none⟩ = some (.int .i64 a2) := (blk_cell HOd.out 2).trans rfl
 have d3 : w1.drew.cell? ⟨bc, 3, none⟩ = some (.int .i64 a3) := (blk_cell HOd.out 3).trans rfl
 have d4 : w1.drew.cell? ⟨bc, 4, none⟩ = some (.int .i64 a4) := (blk_cell HOd.out 4).trans rfl
 have d5 : w1.drew.cell? ⟨bc, 5, none⟩ = some (.int .i64 a5) := (blk_cell HOd.out 5).trans rfl
 have d6 : w1.drew.cell? ⟨bc, 6, none⟩ = some (.int .i64 a6) := (blk_cell HOd.out 6).trans rfl
 have d7 : w1.drew.cell? ⟨bc, 7, none⟩ = some (.int .i64 a7) := (blk_cell HOd.out 7).trans rfl
 have d8 : w1.drew.cell? ⟨bc, 8, none⟩ = some (.int .i64 a8) := (blk_cell HOd.out 8).trans rfl
 have d9 : w1.drew.cell? ⟨bc, 9, none⟩ = some (.int .i64 a9) := (blk_cell HOd.out 9).trans rfl
 have d10 : w1.drew.cell? ⟨bc, 10, none⟩ = some (.int .i64 a10) := (blk_cell HOd.out 10).trans rfl
 have d11 : w1.drew.cell? ⟨bc, 11, none⟩ = some (.int .i64 a11) := (blk_cell HOd.out 11).trans rfl
 have d12 : w1.drew.cell? ⟨bc, 12, none⟩ = some (.int .i64 a12) := (blk_cell HOd.out 12).trans rfl
 clear HL1 HZ1 HB1
 refine start_ (n := 12) (S := fun w' => w'.cell? ⟨bc, 0, none⟩ = some (.slice (some ⟨g, 0, none⟩) P.length cP) ∧ w'.cell? ⟨bc, 1, none⟩ = some (.slice A1 L.length c1) ∧ w'.cell? ⟨bc, 2, none⟩ = some (.int .i64 a2) ∧ w'.cell? ⟨bc, 3, none⟩ = some (.int .i64 a3) ∧ w'.cell? ⟨bc, 4, none⟩ = some (.int .i64 a4) ∧ w'.cell? ⟨bc, 5, none⟩ = some (.int .i64 a5) ∧ w'.cell? ⟨bc, 6, none⟩ = some (.int .i64 a6) ∧ w'.cell? ⟨bc, 7, none⟩ = some (.int .i64 a7) ∧ w'.cell? ⟨bc, 8, none⟩ = some (.int .i64 a8) ∧ w'.cell? ⟨bc, 9, none⟩ = some (.int .i64 a9) ∧ w'.cell? ⟨bc, 10, none⟩ = some (.int .i64 a10) ∧ w'.cell? ⟨bc, 11, none⟩ = some (.int .i64 a11) ∧ w'.cell? ⟨bc, 12, none⟩ = some (.int .i64 a12)) (ds := []) #[false, false, false, false, false, false, false, false, false, false, false, false] (by kernel_rfl) rfl rfl ⟨d0, d1, d2, d3, d4, d5, d6, d7, d8, d9, d10, d11, d12⟩ (fun hHeld => ?_)
 generalize w1.drew = wd at HBd HOd HLd HZd d0 d1 d2 d3 d4 d5 d6 d7 d8 d9 d10 d11 d12 hHeld ⊢
 refine pu 0 13 ?_
 refine pu 1 14 ?_
 refine pu 3 16 ?_
 refine pu 5 18 ?_
 refine pu 6 19 ?_
 refine pu 8 21 ?_
 refine tk13 2 15 ?_
 refine tk13 7 20 ?_
 refine on 4 17 (fun K hK => ?_)
 refine goes_ Tryz.func60 (by kernel_rfl) rfl #[.agg #[.slice (some ⟨g, 0, none⟩) P.length cP, .slice A1 L.length c1, .int .i64 a2, .int .i64 a3, .int .i64 a4, .int .i64 a5, .int .i64 a6, .int .i64 a7, .int .i64 a8, .int .i64 a9, .int .i64 a10, .int .i64 a11, .int .i64 a12], .int .i64 a] (by rfl) rfl rfl lm ?_
 with_reducible refine (dr26_ports.calls 100 (some ⟨g, 0, none⟩) cP P A1 c1 L a2 a3 a4 a5 a6 a7 a8 a9 a10 a11 a12 a x _ (Kd.C_below hCP.out.2 HBd.out) hCP.out.1 (Kd.C_below hCL.out.2 HBd.out) hCL.out.1 HX.out).mono ?_
 rintro e w3 ⟨rfl, hb⟩
 have HB3 := am (below_step HBd.out hb)
 have HO3 := am ((hb.block bc (blk_lt HOd.out)).trans HOd.out)
 have HL3 := am ((hb.block bl (blk_lt HLd.out)).trans HLd.out)
 have HZ3 := am ((hb.block bz (blk_lt HZd.out)).trans HZd.out)
 obtain ⟨f0, f1, f2, f3, f4, f5, f6, f7, f8, f9, f10, f11, f12⟩ := cellsK13 HO3.out
 clear hb
 refine ⟨_, rfl, ?_⟩
 refine hK.out _ _ ⟨f0, f1, f2, f3, f4, f5, f6, f7, f8, f9, f10, f11, f12⟩ (fun hHeld => ?_)
 clear hK K
 refine norm_ (a' := ?_) ?_ ?_
 rotate_left
 ·show Act.put _ (some 17) _ = _
  simp only [Act.put, sAa, sBb, sCc, i64_w, i32_w]
  rfl
 refine on 9 22 (fun K hK => ?_)
 refine goes_ Tryz.func60 (by kernel_rfl) rfl #[.agg #[.slice (some ⟨g, 0, none⟩) P.length cP, .slice A1 L.length c1, .int .i64 a2, .int .i64 a3, .int .i64 a4, .int .i64 a5, .int .i64 a6, .int .i64 a7, .int .i64 a8, .int .i64 a9, .int .i64 a10, .int .i64 a11, .int .i64 a12], .int .i64 b] (by rfl) rfl rfl lm ?_
 with_reducible refine (dr26_ports.calls 100 (some ⟨g, 0, none⟩) cP P A1 c1 L a2 a3 a4 a5 a6 a7 a8 a9 a10 a11 a12 b y _ (Kd.C_below hCP.out.2 HB3.out) hCP.out.1 (Kd.C_below hCL.out.2 HB3.out) hCL.out.1 HY.out).mono ?_
 rintro e w4 ⟨rfl, hb⟩
 have HB4 := am (below_step HB3.out hb)
 have HO4 := am ((hb.block bc (blk_lt HO3.out)).trans HO3.out)
 have HL4 := am ((hb.block bl (blk_lt HL3.out)).trans HL3.out)
 have HZ4 := am ((hb.block bz (blk_lt HZ3.out)).trans HZ3.out)
 obtain ⟨h0, h1, h2, h3, h4, h5, h6, h7, h8, h9, h10, h11, h12⟩ := cellsK13 HO4.out
 clear hb
 refine ⟨_, rfl, ?_⟩
 refine hK.out _ _ ⟨h0, h1, h2, h3, h4, h5, h6, h7, h8, h9, h10, h11, h12⟩ (fun hHeld => ?_)
 clear hK K
 refine norm_ (a' := ?_) ?_ ?_
 rotate_left
 ·show Act.put _ (some 22) _ = _
  simp only [Act.put, sAa, sBb, sCc, i64_w, i32_w]
  rfl
 refine pu 10 8 ?_
 refine pu 11 9 ?_
 refine done_ (by kernel_rfl) ?_
 clear d0 d1 d2 d3 d4 d5 d6 d7 d8 d9 d10 d11 d12 f0 f1 f2 f3 f4 f5 f6 f7 f8 f9 f10 f11 f12 h0 h1 h2 h3 h4 h5 h6 h7 h8 h9 h10 h11 h12
 have l2 : w4.cell? ⟨bl, 2, none⟩ = some (.int .i64 0) := (blk_cell HL4.out 2).trans rfl
 have l3 : w4.cell? ⟨bl, 3, none⟩ = some (.int .i64 0) := (blk_cell HL4.out 3).trans rfl
 have l4 : w4.cell? ⟨bl, 4, none⟩ = some (.int .i64 0) := (blk_cell HL4.out 4).trans rfl
 have l5 : w4.cell? ⟨bl, 5, none⟩ = some (.int .i64 0) := (blk_cell HL4.out 5).trans rfl
 have k2 := blk_frozen HL4.out 2
 have k3 := blk_frozen HL4.out 3
 have k4 := blk_frozen HL4.out 4
 have k5 := blk_frozen HL4.out 5
 go_upto_region 5 with fail
 have HL5 : Aside0 (((((w4.setCell ⟨bl, 2, none⟩ (.int .i64 x)).setCell ⟨bl, 3, none⟩ (.int .i64 (x + 1))).setCell ⟨bl, 4, none⟩ (.int .i64 y)).setCell ⟨bl, 5, none⟩ (.int .i64 (y + 1))).heap[bl]? = some (.cells #[.int .i64 a, .int .i64 b, .int .i64 x, .int .i64 (x + 1), .int .i64 y, .int .i64 (y + 1)] 71)) := ⟨by
  have h := blk_set (blk_set (blk_set (blk_set HL4.out 2 (.int .i64 x)) 3 (.int .i64 (x + 1))) 4 (.int .i64 y)) 5 (.int .i64 (y + 1))
  simpa using h⟩
 have HK5 : Aside0 (∀ k, k ≠ bl → ((((w4.setCell ⟨bl, 2, none⟩ (.int .i64 x)).setCell ⟨bl, 3, none⟩ (.int .i64 (x + 1))).setCell ⟨bl, 4, none⟩ (.int .i64 y)).setCell ⟨bl, 5, none⟩ (.int .i64 (y + 1))).heap[k]? = w4.heap[k]?) := ⟨fun k hk =>
  (Below.heap_setCell _ _ _ k hk).trans ((Below.heap_setCell _ _ _ k hk).trans ((Below.heap_setCell _ _ _ k hk).trans (Below.heap_setCell _ _ _ k hk)))⟩
 have HB5 : Aside0 (Below w.heap.size w ((((w4.setCell ⟨bl, 2, none⟩ (.int .i64 x)).setCell ⟨bl, 3, none⟩ (.int .i64 (x + 1))).setCell ⟨bl, 4, none⟩ (.int .i64 y)).setCell ⟨bl, 5, none⟩ (.int .i64 (y + 1)))) := ⟨(((HB4.out.setCell HNE.out.2.1 _).setCell HNE.out.2.1 _).setCell HNE.out.2.1 _).setCell HNE.out.2.1 _⟩
 clear l2 l3 l4 l5 k2 k3 k4 k5
 generalize (((w4.setCell ⟨bl, 2, none⟩ (.int .i64 x)).setCell ⟨bl, 3, none⟩ (.int .i64 (x + 1))).setCell ⟨bl, 4, none⟩ (.int .i64 y)).setCell ⟨bl, 5, none⟩ (.int .i64 (y + 1)) = w5 at *
 have HZ5 := am ((HK5.out bz HNE.out.1).trans HZ4.out)
 have HO5 := am ((HK5.out bc (Ne.symm HNE.out.2.2.2.1)).trans HO4.out)
 have HP5 := am ((HP.out.keep (HB4.out.block g HG.out.1)).keep (HK5.out g (Ne.symm HNE.out.2.2.2.2.2.1)))
 clear HZ4 HO4 HL4 HB4 HK5
 -- the first part
 have HBe : Aside0 (Below w.heap.size w w5.drew) := ⟨below_drew HB5.out⟩
 have HOe : Aside0 (w5.drew.heap[bc]? = some (.cells #[.slice (some ⟨g, 0, none⟩) P.length cP, .slice A1 L.length c1, .int .i64 a2, .int .i64 a3, .int .i64 a4, .int .i64 a5, .int .i64 a6, .int .i64 a7, .int .i64 a8, .int .i64 a9, .int .i64 a10, .int .i64 a11, .int .i64 a12] 25)) := ⟨HO5.out⟩
 have HLe : Aside0 (w5.drew.heap[bl]? = some (.cells #[.int .i64 a, .int .i64 b, .int .i64 x, .int .i64 (x + 1), .int .i64 y, .int .i64 (y + 1)] 71)) := ⟨HL5.out⟩
 have HZe : Aside0 (w5.drew.heap[bz]? = some (.cells #[.int .i64 0, .int .i64 0, .int .i64 0, .int .i64 0, .int .i64 0, .int .i64 0] 71)) := ⟨HZ5.out⟩
 have HPe : Aside0 (PB w5.drew g cP P) := ⟨HP5.out⟩
 have ya : w5.drew.cell? ⟨bc, 0, none⟩ = some (.slice (some ⟨g, 0, none⟩) P.length cP) := (blk_cell HOe.out 0).trans rfl
 have yb := HPe.out.cell a HA.out.1.1 HA.out.1.2
 obtain ⟨yb, yf⟩ := yb
 clear HZ5 HO5 HL5 HP5 HB5
 have Hm' := Hm.out
 obtain ⟨na, hna⟩ : ∃ na, (rd_T68 P a).f0 = na := ⟨_, rfl⟩
 rw [hna] at yb Hm'
 have p0_ := eq_true HA.out.1.1
 have p1_ := eq_true HA.out.1.2
 refine start_ (n := 19) (S := fun w' => w'.cell? ⟨bc, 0, none⟩ = some (.slice (some ⟨g, 0, none⟩) P.length cP) ∧ w'.cell? ⟨g, a.toNat * 2, none⟩ = some (.int .i64 na)) (ds := [18]) #[false, false, false, false, false, false, false, false, false, false, false, false, false, false, false, false, false, false, false] (by kernel_rfl) rfl rfl ⟨ya, yb⟩ (fun hHeld => ?_)
 generalize w5.drew = we at *
 refine pu 0 33 ?_
 refine pu 1 34 ?_
 refine pu 2 35 ?_
 refine pu 4 37 ?_
 refine pu 5 38 ?_
 refine pu 6 39 ?_
 refine pu 7 40 ?_
 refine pu 9 42 ?_
 refine pu 13 46 ?_
 refine pu 14 47 ?_
 refine tk2 3 36 ?_
 refine tk2 8 41 ?_
 refine pu 10 43 ?_
 refine pu 11 44 ?_
 refine tk2 12 45 ?_
 refine pu 15 48 ?_
 refine pu 16 49 ?_
 refine pu 17 50 ?_
 refine lan 18 (fun K hK => ?_)
 refine skip_ (w1 := ?_) (by rfl) rfl ?_ ?_
 rotate_left
 ·go_simp
  rfl
 refine hK.out _ _ ?_
 clear hK K
 refine done_ (by kernel_rfl) ?_
 have HP6 := am (HPe.out.put a HA.out.1.1 HA.out.1.2 m)
 have HL6 := am ((Below.heap_setCell we ⟨g, a.toNat * 2, none⟩ (.int .i64 m) bl HNE.out.2.2.2.2.2.1).trans HLe.out)
 have HZ6 := am ((Below.heap_setCell we ⟨g, a.toNat * 2, none⟩ (.int .i64 m) bz HNE.out.2.2.2.2.2.2).trans HZe.out)
 have HO6 := am ((Below.heap_setCell we ⟨g, a.toNat * 2, none⟩ (.int .i64 m) bc (Ne.symm HG.out.2.2)).trans HOe.out)
 have HF6 : Aside0 (∀ k, k < w.heap.size → k ≠ g → (we.setCell ⟨g, a.toNat * 2, none⟩ (.int .i64 m)).heap[k]? = w.heap[k]?) := ⟨fun k hk hg => (Below.heap_setCell we ⟨g, a.toNat * 2, none⟩ (.int .i64 m) k hg).trans (HBe.out.block k hk)⟩
 have HBw : Aside0 (B ≤ w.heap.size) := ⟨by have := HBB.out; have := HG.out; omega⟩
 have HB6 : Aside0 (Below B w (we.setCell ⟨g, a.toNat * 2, none⟩ (.int .i64 m))) := ⟨(HBe.out.mono HBw.out).setCell HBB.out.2 _⟩
 clear ya yb yf HPe HLe HZe HOe HBe p0_ p1_ Hm'
 generalize we.setCell ⟨g, a.toNat * 2, none⟩ (.int .i64 m) = w6 at *
 have hlen1 : (P.set a.toNat ⟨m, (rd_T68 P a).f1⟩).length = P.length := List.length_set
 obtain ⟨P1, hP1⟩ : ∃ P1, P.set a.toNat ⟨m, (rd_T68 P a).f1⟩ = P1 := ⟨_, rfl⟩
 rw [hP1] at HP6 Hn hlen1
 have HP1 := am hP1
 have Hlen := am hlen1
 clear hlen1 hP1 hna
 -- the other part
 have HF : Aside0 (∀ k, k < w.heap.size → k ≠ g → w6.drew.heap[k]? = w.heap[k]?) := ⟨HF6.out⟩
 have HBf : Aside0 (Below B w w6.drew) := ⟨below_drew HB6.out⟩
 have HOf : Aside0 (w6.drew.heap[bc]? = some (.cells #[.slice (some ⟨g, 0, none⟩) P.length cP, .slice A1 L.length c1, .int .i64 a2, .int .i64 a3, .int .i64 a4, .int .i64 a5, .int .i64 a6, .int .i64 a7, .int .i64 a8, .int .i64 a9, .int .i64 a10, .int .i64 a11, .int .i64 a12] 25)) := ⟨HO6.out⟩
 have HLf : Aside0 (w6.drew.heap[bl]? = some (.cells #[.int .i64 a, .int .i64 b, .int .i64 x, .int .i64 (x + 1), .int .i64 y, .int .i64 (y + 1)] 71)) := ⟨HL6.out⟩
 have HZf : Aside0 (w6.drew.heap[bz]? = some (.cells #[.int .i64 0, .int .i64 0, .int .i64 0, .int .i64 0, .int .i64 0, .int .i64 0] 71)) := ⟨HZ6.out⟩
 have HPf : Aside0 (PB w6.drew g cP P1) := ⟨HP6.out⟩
 have ya : w6.drew.cell? ⟨bc, 0, none⟩ = some (.slice (some ⟨g, 0, none⟩) P.length cP) := (blk_cell HOf.out 0).trans rfl
 have yb := HPf.out.cell b HA.out.2.1 (by rw [Hlen.out]; exact HA.out.2.2)
 obtain ⟨yb, yf⟩ := yb
 clear HZ6 HO6 HL6 HP6 HB6 HF6
 have Hn' := Hn.out
 obtain ⟨nb, hnb⟩ : ∃ nb, (rd_T68 P1 b).f0 = nb := ⟨_, rfl⟩
 rw [hnb] at yb Hn'
 have p0_ := eq_true HA.out.2.1
 have p1_ := eq_true HA.out.2.2
 go_upto_region 6 with fail
 refine start_ (n := 19) (S := fun w' => w'.cell? ⟨bc, 0, none⟩ = some (.slice (some ⟨g, 0, none⟩) P.length cP) ∧ w'.cell? ⟨g, b.toNat * 2, none⟩ = some (.int .i64 nb)) (ds := [18]) #[false, false, false, false, false, false, false, false, false, false, false, false, false, false, false, false, false, false, false] (by kernel_rfl) rfl rfl ⟨ya, yb⟩ (fun hHeld => ?_)
 generalize w6.drew = wf at *
 refine pu 0 51 ?_
 refine pu 1 52 ?_
 refine pu 2 53 ?_
 refine pu 4 55 ?_
 refine pu 5 56 ?_
 refine pu 6 57 ?_
 refine pu 7 58 ?_
 refine pu 9 60 ?_
 refine pu 13 64 ?_
 refine pu 14 65 ?_
 refine tk2 3 54 ?_
 refine tk2 8 59 ?_
 refine pu 10 61 ?_
 refine pu 11 62 ?_
 refine tk2 12 63 ?_
 refine pu 15 66 ?_
 refine pu 16 67 ?_
 refine pu 17 68 ?_
 refine lan 18 (fun K hK => ?_)
 refine skip_ (w1 := ?_) (by rfl) rfl ?_ ?_
 rotate_left
 ·go_simp
  rfl
 refine hK.out _ _ ?_
 clear hK K
 refine done_ (by kernel_rfl) ?_
 have HP7 := am (HPf.out.put b HA.out.2.1 (by rw [Hlen.out]; exact HA.out.2.2) n)
 have HL7 := am ((Below.heap_setCell wf ⟨g, b.toNat * 2, none⟩ (.int .i64 n) bl HNE.out.2.2.2.2.2.1).trans HLf.out)
 have HZ7 := am ((Below.heap_setCell wf ⟨g, b.toNat * 2, none⟩ (.int .i64 n) bz HNE.out.2.2.2.2.2.2).trans HZf.out)
 have HO7 := am ((Below.heap_setCell wf ⟨g, b.toNat * 2, none⟩ (.int .i64 n) bc (Ne.symm HG.out.2.2)).trans HOf.out)
 have HF7 : Aside0 (∀ k, k < w.heap.size → k ≠ g → (wf.setCell ⟨g, b.toNat * 2, none⟩ (.int .i64 n)).heap[k]? = w.heap[k]?) := ⟨fun k hk hg => (Below.heap_setCell wf ⟨g, b.toNat * 2, none⟩ (.int .i64 n) k hg).trans (HF.out k hk hg)⟩
 have HB7 : Aside0 (Below B w (wf.setCell ⟨g, b.toNat * 2, none⟩ (.int .i64 n))) := ⟨HBf.out.setCell HBB.out.2 _⟩
 clear ya yb yf HPf HLf HZf HOf HBf HF p0_ p1_ Hn' hnb
 generalize wf.setCell ⟨g, b.toNat * 2, none⟩ (.int .i64 n) = w7 at *
 obtain ⟨l0, l1, l2, l3, l4, l5⟩ := cellsK6 HL7.out
 have z0 : w7.cell? ⟨bz, 0, none⟩ = some (.int .i64 0) := (blk_cell HZ7.out 0).trans rfl
 have zf0 := blk_frozen HZ7.out 0
 have z1 : w7.cell? ⟨bz, 1, none⟩ = some (.int .i64 0) := (blk_cell HZ7.out 1).trans rfl
 have zf1 := blk_frozen HZ7.out 1
 have z2 : w7.cell? ⟨bz, 2, none⟩ = some (.int .i64 0) := (blk_cell HZ7.out 2).trans rfl
 have zf2 := blk_frozen HZ7.out 2
 have z3 : w7.cell? ⟨bz, 3, none⟩ = some (.int .i64 0) := (blk_cell HZ7.out 3).trans rfl
 have zf3 := blk_frozen HZ7.out 3
 have z4 : w7.cell? ⟨bz, 4, none⟩ = some (.int .i64 0) := (blk_cell HZ7.out 4).trans rfl
 have zf4 := blk_frozen HZ7.out 4
 have z5 : w7.cell? ⟨bz, 5, none⟩ = some (.int .i64 0) := (blk_cell HZ7.out 5).trans rfl
 have zf5 := blk_frozen HZ7.out 5
 have hbz0 : bl ≠ bz := Ne.symm HNE.out.1
 go_wp2_with fail
 refine bodyPost_ret (results_cell_row rfl _ _ bz 71 #[.int .i64 a, .int .i64 b, .int .i64 x, .int .i64 (x + 1), .int .i64 y, .int .i64 (y + 1)] (0, 0) _ rfl (by
  have h := blk_set (blk_set (blk_set (blk_set (blk_set (blk_set HZ7.out 0 (.int .i64 a)) 1 (.int .i64 b)) 2 (.int .i64 x)) 3 (.int .i64 (x + 1))) 4 (.int .i64 y)) 5 (.int .i64 (y + 1))
  simpa using h) Tryz.underlying71 rfl (by kernel_rfl)) rfl ?_
 have HK : ∀ k, k ≠ bz → ((((((w7.setCell ⟨bz, 0, none⟩ (.int .i64 a)).setCell ⟨bz, 1, none⟩ (.int .i64 b)).setCell ⟨bz, 2, none⟩ (.int .i64 x)).setCell ⟨bz, 3, none⟩ (.int .i64 (x + 1))).setCell ⟨bz, 4, none⟩ (.int .i64 y)).setCell ⟨bz, 5, none⟩ (.int .i64 (y + 1))).heap[k]? = w7.heap[k]? := fun k hk =>
  (Below.heap_setCell _ _ _ k hk).trans ((Below.heap_setCell _ _ _ k hk).trans ((Below.heap_setCell _ _ _ k hk).trans ((Below.heap_setCell _ _ _ k hk).trans ((Below.heap_setCell _ _ _ k hk).trans (Below.heap_setCell _ _ _ k hk)))))
 have hBz : B ≤ bz := Nat.le_trans HBw.out HNE.out.2.2.1
 rw [HP1.out]
 refine ⟨rfl, (HK bc (Ne.symm HNE.out.2.2.2.2.1)).trans HO7.out, HP7.out.keep (HK g (Ne.symm HNE.out.2.2.2.2.2.2)), ?_, (((((HB7.out.setCell hBz _).setCell hBz _).setCell hBz _).setCell hBz _).setCell hBz _).setCell hBz _, fun k hlt hk => (HK k (by have := HNE.out; omega)).trans (HF7.out k hlt hk)⟩
 obtain ⟨curP, hcP, _⟩ := HP.out
 refine Kd.R_mono (Kd.R_step (Kd.R_types HL.out hcP (by decide)) (fun k hk hlt => ?_)) (fun _ _ => trivial)
 exact (HK k (by have := HNE.out; omega)).trans (HF7.out k hlt hk.2)
end Go.Proofs.YtbefbhghmommhaaGreatDoor.MWo
