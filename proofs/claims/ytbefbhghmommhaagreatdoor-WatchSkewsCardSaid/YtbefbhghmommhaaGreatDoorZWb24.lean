/- Texts of this claim, laid together by a program (wip/g/merge3.py): HRi. -/
import Derived.Test.YtbefbhghmommhaaGreatDoorZWb14
import Derived.Test.YtbefbhghmommhaaGreatDoorZWb16
import Derived.Test.YtbefbhghmommhaaGreatDoorZWb23
import Derived.Test.YtbefbhghmommhaaGreatDoorZWb6
set_option linter.unusedVariables false
set_option linter.unusedSimpArgs false
set_option maxRecDepth 100000
namespace Go.Proofs.YtbefbhghmommhaaGreatDoor.MWo
open Go.RowKit Go.Proofs.YtbefbhghmommhaaGreatDoorW.PrintWords Go.Proofs.YtbefbhghmommhaaGreatDoorW.PrintLast Go.Proofs.YtbefbhghmommhaaGreatDoorW.PrintMore
set_option maxHeartbeats 8000000 in
theorem right17_walk (A0 : Option Addr) (c0 : Nat) (P : List S68) (A1 : Option Addr) (c1 : Nat) (L : List S71) (a2 a3 a4 a5 a6 a7 a8 a9 a10 a11 a12 part : Int) (A : Option Addr) (c : Nat) (xs : List S55) (on : Bool) (st : Int) (A3 : Option Addr) (c3 : Nat) (ag : List Int) (KR : Nat) (w : World) (hN : NetAt w P A0 c0 L A1 c1) (hX : CellAt w ⟨xs, ⟨on, st, ag⟩⟩ A c A3 c3)
  (hf : dr5_Fit.f P L a2 a3 a4 a5 a6 a7 a8 a9 a10 a11 a12 part = some true) (hp : 0 ≤ part ∧ part < P.length) (hn : (xs.length : Int) = (rd_T68 P part).f0) (hl : xs.length ≤ 1000) (hr : ∀ z ∈ xs, dr17_right.f KR P L a2 a3 a4 a5 a6 a7 a8 a9 a10 a11 a12 z.f0 z.f1 z.f2 z.f3 z.f4 z.f5 z.f6 z.f7 = some true) (ht : dr1_Time.f st = some true) (hg : dr17_ages.f KR P L a2 a3 a4 a5 a6 a7 a8 a9 a10 a11 a12 ag on = some true) :
  Calls Tryz.prog 17 #[.agg #[.slice A0 P.length c0, .slice A1 L.length c1, .int .i64 a2, .int .i64 a3, .int .i64 a4, .int .i64 a5, .int .i64 a6, .int .i64 a7, .int .i64 a8, .int .i64 a9, .int .i64 a10, .int .i64 a11, .int .i64 a12], .int .i64 part, .agg #[.slice A xs.length c, .bool on, .int .i64 st, .slice A3 ag.length c3]] w fun e w' => e = .returned (.bool true) ∧ Below w.heap.size w w' := by
 have HN := am hN
 have HX := am hX
 have HF := am hf
 have HP := am hp
 have HL := am hl
 have HR := am hr
 have HT := am ht
 have HG := am hg
 obtain ⟨ad0, e0, y0, y1⟩ := at_T68 hN.p part hp.1 hp.2
 cases e0
 rw [← hn] at y0
 have Y0 := am y0
 clear hN hX hf hp hl hr ht hg hn y0 y1
 have b1 := below_alloc (Below.refl w.heap.size w) (.cells #[.slice (some ad0) P.length c0, .slice A1 L.length c1, .int .i64 a2, .int .i64 a3, .int .i64 a4, .int .i64 a5, .int .i64 a6, .int .i64 a7, .int .i64 a8, .int .i64 a9, .int .i64 a10, .int .i64 a11, .int .i64 a12] 25)
 have b2 := below_alloc b1 (.cells #[.slice A xs.length c, .bool on, .int .i64 st, .slice A3 ag.length c3] 37)
 have hsz : (w.alloc (.cells #[.slice (some ad0) P.length c0, .slice A1 L.length c1, .int .i64 a2, .int .i64 a3, .int .i64 a4, .int .i64 a5, .int .i64 a6, .int .i64 a7, .int .i64 a8, .int .i64 a9, .int .i64 a10, .int .i64 a11, .int .i64 a12] 25)).heap.size = w.heap.size + 1 := Array.size_push _
 have k1 := ((below_alloc (Below.refl _ _) (.cells #[.slice A xs.length c, .bool on, .int .i64 st, .slice A3 ag.length c3] 37)).block w.heap.size (blk_lt (heap_alloc_new w (.cells #[.slice (some ad0) P.length c0, .slice A1 L.length c1, .int .i64 a2, .int .i64 a3, .int .i64 a4, .int .i64 a5, .int .i64 a6, .int .i64 a7, .int .i64 a8, .int .i64 a9, .int .i64 a10, .int .i64 a11, .int .i64 a12] 25)))).trans (heap_alloc_new w (.cells #[.slice (some ad0) P.length c0, .slice A1 L.length c1, .int .i64 a2, .int .i64 a3, .int .i64 a4, .int .i64 a5, .int .i64 a6, .int .i64 a7, .int .i64 a8, .int .i64 a9, .int .i64 a10, .int .i64 a11, .int .i64 a12] 25))
 have k2 := heap_alloc_new (w.alloc (.cells #[.slice (some ad0) P.length c0, .slice A1 L.length c1, .int .i64 a2, .int .i64 a3, .int .i64 a4, .int .i64 a5, .int .i64 a6, .int .i64 a7, .int .i64 a8, .int .i64 a9, .int .i64 a10, .int .i64 a11, .int .i64 a12] 25)) (.cells #[.slice A xs.length c, .bool on, .int .i64 st, .slice A3 ag.length c3] 37)
 rw [hsz] at k2
 have BC := am k1
 have BX := am k2
 have HB := am b2
 clear b1 b2 k1 k2
 go_enter Tryz.func17, Tryz.ntmps17
 go_upto_region 1 with fail
 clear hsz
 generalize (w.alloc (.cells #[.slice (some ad0) P.length c0, .slice A1 L.length c1, .int .i64 a2, .int .i64 a3, .int .i64 a4, .int .i64 a5, .int .i64 a6, .int .i64 a7, .int .i64 a8, .int .i64 a9, .int .i64 a10, .int .i64 a11, .int .i64 a12] 25)).alloc (.cells #[.slice A xs.length c, .bool on, .int .i64 st, .slice A3 ag.length c3] 37) = w1 at *
 obtain ⟨bC, hbC⟩ : ∃ bC, bC = w.heap.size := ⟨_, rfl⟩
 obtain ⟨bX, hbX⟩ : ∃ bX, bX = w.heap.size + 1 := ⟨_, rfl⟩
 rw [← hbX] at BX
 rw [← hbX, ← hbC]
 rw [← hbC] at BC
 clear hbX hbC
 have p0_ := eq_true HP.out.1
 have p1_ := eq_true HP.out.2
 have e0 := (HB.out.cell (c_lt Y0.out)).trans Y0.out
 have t0 : ((xs.length : Int) != (xs.length : Int)) = false := bne_self_eq_false _
 obtain ⟨n0, n1, n2, n3, n4, n5, n6, n7, n8, n9, n10, n11, n12⟩ := cellsK13 BC.out
 obtain ⟨x0, x1, x2, x3⟩ := cellsK4 BX.out
 have dd0 : w1.drew.cell? ⟨bC, 0, none⟩ = some (.slice (some ad0) P.length c0) := n0
 have dd1 : w1.drew.cell? ⟨bC, 1, none⟩ = some (.slice A1 L.length c1) := n1
 have dd2 : w1.drew.cell? ⟨bC, 2, none⟩ = some (.int .i64 a2) := n2
 have dd3 : w1.drew.cell? ⟨bC, 3, none⟩ = some (.int .i64 a3) := n3
 have dd4 : w1.drew.cell? ⟨bC, 4, none⟩ = some (.int .i64 a4) := n4
 have dd5 : w1.drew.cell? ⟨bC, 5, none⟩ = some (.int .i64 a5) := n5
 have dd6 : w1.drew.cell? ⟨bC, 6, none⟩ = some (.int .i64 a6) := n6
 have dd7 : w1.drew.cell? ⟨bC, 7, none⟩ = some (.int .i64 a7) := n7
 have dd8 : w1.drew.cell? ⟨bC, 8, none⟩ = some (.int .i64 a8) := n8
 have dd9 : w1.drew.cell? ⟨bC, 9, none⟩ = some (.int .i64 a9) := n9
 have dd10 : w1.drew.cell? ⟨bC, 10, none⟩ = some (.int .i64 a10) := n10
 have dd11 : w1.drew.cell? ⟨bC, 11, none⟩ = some (.int .i64 a11) := n11
 have dd12 : w1.drew.cell? ⟨bC, 12, none⟩ = some (.int .i64 a12) := n12
 have dd13 : w1.drew.cell? ⟨bX, 0, none⟩ = some (.slice A xs.length c) := x0
 have dd14 : w1.drew.cell? (ad0.add (part.toNat * 2)) = some (.int .i64 (xs.length : Int)) := e0
 refine start_ (n := 16) (S := fun w' => w'.cell? ⟨bC, 0, none⟩ = some (.slice (some ad0) P.length c0) ∧ w'.cell? ⟨bC, 1, none⟩ = some (.slice A1 L.length c1) ∧ w'.cell? ⟨bC, 2, none⟩ = some (.int .i64 a2) ∧ w'.cell? ⟨bC, 3, none⟩ = some (.int .i64 a3) ∧ w'.cell? ⟨bC, 4, none⟩ = some (.int .i64 a4) ∧ w'.cell? ⟨bC, 5, none⟩ = some (.int .i64 a5) ∧ w'.cell? ⟨bC, 6, none⟩ = some (.int .i64 a6) ∧ w'.cell? ⟨bC, 7, none⟩ = some (.int .i64 a7) ∧ w'.cell? ⟨bC, 8, none⟩ = some (.int .i64 a8) ∧ w'.cell? ⟨bC, 9, none⟩ = some (.int .i64 a9) ∧ w'.cell? ⟨bC, 10, none⟩ = some (.int .i64 a10) ∧ w'.cell? ⟨bC, 11, none⟩ = some (.int .i64 a11) ∧ w'.cell? ⟨bC, 12, none⟩ = some (.int .i64 a12) ∧ w'.cell? ⟨bX, 0, none⟩ = some (.slice A xs.length c) ∧ w'.cell? (ad0.add (part.toNat * 2)) = some (.int .i64 (xs.length : Int))) (ds := []) #[false, false, false, false, false, false, false, false, false, false, false, false, false, false, false, false] (by kernel_rfl) rfl rfl ⟨dd0, dd1, dd2, dd3, dd4, dd5, dd6, dd7, dd8, dd9, dd10, dd11, dd12, dd13, dd14⟩ (fun hHeld => ?_)
 refine pure_ (i := 1) (N := some 9) (v := ?_) (a' := ?_) #[false, true, false, false, false, false, false, false, false, false, false, false, false, false, false, false] rfl rfl (by kernel_rfl) (fun _ _ _ h => h) (Or.inl ⟨by rfl, ?_⟩) ?_ ?_
 rotate_left
 ·intro w'
  go_simp
  with_reducible rfl
 rotate_left
 ·simp only [Act.put, sAa, sBb, sCc, i64_w, i32_w]
  rfl
 refine take_ (i := 0) (N := some 8) (v := ?_) (a' := ?_) #[true, true, false, false, false, false, false, false, false, false, false, false, false, false, false, false] rfl rfl (by kernel_rfl) (fun _ _ _ h => h) (Or.inl ⟨by rfl, ?_⟩) hHeld ?_ ?_
 rotate_left
 ·rintro w' ⟨s0, s1, s2, s3, s4, s5, s6, s7, s8, s9, s10, s11, s12, s13, s14⟩
  go_simp
  with_reducible rfl
 rotate_left
 ·simp only [Act.put, sAa, sBb, sCc, i64_w, i32_w]
  rfl
 refine one_ (i := 2) (N := some 10) #[true, true, true, false, false, false, false, false, false, false, false, false, false, false, false, false] rfl rfl (by kernel_rfl) (by decide) (fun K hK => ?_)
 refine goes_ Tryz.func44 (by kernel_rfl) rfl #[.agg #[.slice (some ad0) P.length c0, .slice A1 L.length c1, .int .i64 a2, .int .i64 a3, .int .i64 a4, .int .i64 a5, .int .i64 a6, .int .i64 a7, .int .i64 a8, .int .i64 a9, .int .i64 a10, .int .i64 a11, .int .i64 a12], .int .i64 part] (by rfl) rfl rfl (by simp only [List.map_toArray, List.map_cons, List.map_nil]; rfl) ?_
 with_reducible refine (dr5_Fit.calls (some ad0) c0 P A1 c1 L a2 a3 a4 a5 a6 a7 a8 a9 a10 a11 a12 part true _ (HN.out.below HB.out.drew).p (HN.out.below HB.out.drew).cp (HN.out.below HB.out.drew).q (HN.out.below HB.out.drew).cq HF.out).mono ?_
 rintro e w3 ⟨rfl, hb3⟩
 have K3 := am (below_step HB.out.drew hb3)
 have BC3 := am ((hb3.block bC (blk_lt BC.out)).trans BC.out)
 have BX3 := am ((hb3.block bX (blk_lt BX.out)).trans BX.out)
 have z0 := (hb3.cell (c_lt dd0)).trans dd0
 have z1 := (hb3.cell (c_lt dd1)).trans dd1
 have z2 := (hb3.cell (c_lt dd2)).trans dd2
 have z3 := (hb3.cell (c_lt dd3)).trans dd3
 have z4 := (hb3.cell (c_lt dd4)).trans dd4
 have z5 := (hb3.cell (c_lt dd5)).trans dd5
 have z6 := (hb3.cell (c_lt dd6)).trans dd6
 have z7 := (hb3.cell (c_lt dd7)).trans dd7
 have z8 := (hb3.cell (c_lt dd8)).trans dd8
 have z9 := (hb3.cell (c_lt dd9)).trans dd9
 have z10 := (hb3.cell (c_lt dd10)).trans dd10
 have z11 := (hb3.cell (c_lt dd11)).trans dd11
 have z12 := (hb3.cell (c_lt dd12)).trans dd12
 have z13 := (hb3.cell (c_lt dd13)).trans dd13
 have z14 := (hb3.cell (c_lt dd14)).trans dd14
 clear hb3
 refine ⟨_, rfl, ?_⟩
 clear hHeld
 refine hK.out _ _ ⟨z0, z1, z2, z3, z4, z5, z6, z7, z8, z9, z10, z11, z12, z13, z14⟩ (fun hHeld => ?_)
 clear hK K
 refine norm_ (a' := ?_) ?_ ?_
 rotate_left
 ·show Act.put _ (some 10) _ = _
  simp only [Act.put, sAa, sBb, sCc, i64_w, i32_w]
  rfl
 refine pure_ (i := 3) (N := some 11) (v := ?_) (a' := ?_) #[true, true, true, true, false, false, false, false, false, false, false, false, false, false, false, false] rfl rfl (by kernel_rfl) (fun _ _ _ h => h) (Or.inl ⟨by rfl, ?_⟩) ?_ ?_
 rotate_left
 ·intro w'
  go_simp
  with_reducible rfl
 rotate_left
 ·simp only [Act.put, sAa, sBb, sCc, i64_w, i32_w]
  rfl
 refine pure_ (i := 4) (N := some 12) (v := ?_) (a' := ?_) #[true, true, true, true, true, false, false, false, false, false, false, false, false, false, false, false] rfl rfl (by kernel_rfl) (fun _ _ _ h => h) (Or.inl ⟨by rfl, ?_⟩) ?_ ?_
 rotate_left
 ·intro w'
  go_simp
  with_reducible rfl
 rotate_left
 ·simp only [Act.put, sAa, sBb, sCc, i64_w, i32_w]
  rfl
 refine pure_ (i := 5) (N := some 13) (v := ?_) (a' := ?_) #[true, true, true, true, true, true, false, false, false, false, false, false, false, false, false, false] rfl rfl (by kernel_rfl) (fun _ _ _ h => h) (Or.inl ⟨by rfl, ?_⟩) ?_ ?_
 rotate_left
 ·intro w'
  go_simp
  with_reducible rfl
 rotate_left
 ·simp only [Act.put, sAa, sBb, sCc, i64_w, i32_w]
  rfl
 refine pure_ (i := 8) (N := some 16) (v := ?_) (a' := ?_) #[true, true, true, true, true, true, false, false, true, false, false, false, false, false, false, false] rfl rfl (by kernel_rfl) (fun _ _ _ h => h) (Or.inl ⟨by rfl, ?_⟩) ?_ ?_
 rotate_left
 ·intro w'
  go_simp
  with_reducible rfl
 rotate_left
 ·simp only [Act.put, sAa, sBb, sCc, i64_w, i32_w]
  rfl
 refine pure_ (i := 10) (N := some 18) (v := ?_) (a' := ?_) #[true, true, true, true, true, true, false, false, true, false, true, false, false, false, false, false] rfl rfl (by kernel_rfl) (fun _ _ _ h => h) (Or.inl ⟨by rfl, ?_⟩) ?_ ?_
 rotate_left
 ·intro w'
  go_simp
  with_reducible rfl
 rotate_left
 ·simp only [Act.put, sAa, sBb, sCc, i64_w, i32_w]
  rfl
 refine take_ (i := 6) (N := some 14) (v := ?_) (a' := ?_) #[true, true, true, true, true, true, true, false, true, false, true, false, false, false, false, false] rfl rfl (by kernel_rfl) (fun _ _ _ h => h) (Or.inl ⟨by rfl, ?_⟩) hHeld ?_ ?_
 rotate_left
 ·rintro w' ⟨s0, s1, s2, s3, s4, s5, s6, s7, s8, s9, s10, s11, s12, s13, s14⟩
  go_simp
  with_reducible rfl
 rotate_left
 ·simp only [Act.put, sAa, sBb, sCc, i64_w, i32_w]
  rfl
 refine pure_ (i := 7) (N := some 15) (v := ?_) (a' := ?_) #[true, true, true, true, true, true, true, true, true, false, true, false, false, false, false, false] rfl rfl (by kernel_rfl) (fun _ _ _ h => h) (Or.inl ⟨by rfl, ?_⟩) ?_ ?_
 rotate_left
 ·intro w'
  go_simp
  with_reducible rfl
 rotate_left
 ·simp only [Act.put, sAa, sBb, sCc, i64_w, i32_w]
  rfl
 refine take_ (i := 9) (N := some 17) (v := ?_) (a' := ?_) #[true, true, true, true, true, true, true, true, true, true, true, false, false, false, false, false] rfl rfl (by kernel_rfl) (fun _ _ _ h => h) (Or.inl ⟨by rfl, ?_⟩) hHeld ?_ ?_
 rotate_left
 ·rintro w' ⟨s0, s1, s2, s3, s4, s5, s6, s7, s8, s9, s10, s11, s12, s13, s14⟩
  go_simp
  with_reducible rfl
 rotate_left
 ·simp only [Act.put, sAa, sBb, sCc, i64_w, i32_w]
  rfl
 refine pure_ (i := 11) (N := some 19) (v := ?_) (a' := ?_) #[true, true, true, true, true, true, true, true, true, true, true, true, false, false, false, false] rfl rfl (by kernel_rfl) (fun _ _ _ h => h) (Or.inl ⟨by rfl, ?_⟩) ?_ ?_
 rotate_left
 ·intro w'
  go_simp
  with_reducible rfl
 rotate_left
 ·simp only [Act.put, sAa, sBb, sCc, i64_w, i32_w]
  rfl
 refine pure_ (i := 12) (N := some 20) (v := ?_) (a' := ?_) #[true, true, true, true, true, true, true, true, true, true, true, true, true, false, false, false] rfl rfl (by kernel_rfl) (fun _ _ _ h => h) (Or.inl ⟨by rfl, ?_⟩) ?_ ?_
 rotate_left
 ·intro w'
  go_simp
  with_reducible rfl
 rotate_left
 ·simp only [Act.put, sAa, sBb, sCc, i64_w, i32_w]
  rfl
 refine take_ (i := 13) (N := some 21) (v := ?_) (a' := ?_) #[true, true, true, true, true, true, true, true, true, true, true, true, true, true, false, false] rfl rfl (by kernel_rfl) (fun _ _ _ h => h) (Or.inl ⟨by rfl, ?_⟩) hHeld ?_ ?_
 rotate_left
 ·rintro w' ⟨s0, s1, s2, s3, s4, s5, s6, s7, s8, s9, s10, s11, s12, s13, s14⟩
  go_simp
  with_reducible rfl
 rotate_left
 ·simp only [Act.put, sAa, sBb, sCc, i64_w, i32_w]
  rfl
 refine pure_ (i := 14) (N := some 22) (v := ?_) (a' := ?_) #[true, true, true, true, true, true, true, true, true, true, true, true, true, true, true, false] rfl rfl (by kernel_rfl) (fun _ _ _ h => h) (Or.inl ⟨by rfl, ?_⟩) ?_ ?_
 rotate_left
 ·intro w'
  go_simp
  with_reducible rfl
 rotate_left
 ·simp only [Act.put, sAa, sBb, sCc, i64_w, i32_w]
  rfl
 refine pure_ (i := 15) (N := some 23) (v := ?_) (a' := ?_) #[true, true, true, true, true, true, true, true, true, true, true, true, true, true, true, true] rfl rfl (by kernel_rfl) (fun _ _ _ h => h) (Or.inl ⟨by rfl, ?_⟩) ?_ ?_
 rotate_left
 ·intro w'
  go_simp
  with_reducible rfl
 rotate_left
 ·simp only [Act.put, sAa, sBb, sCc, i64_w, i32_w]
  rfl
 refine done_ (by kernel_rfl) ?_
 clear hHeld
 clear dd0 z0 dd1 z1 dd2 z2 dd3 z3 dd4 z4 dd5 z5 dd6 z6 dd7 z7 dd8 z8 dd9 z9 dd10 z10 dd11 z11 dd12 z12 dd13 z13 dd14 z14
 clear n0 n1 n2 n3 n4 n5 n6 n7 n8 n9 n10 n11 n12 x0 x1 x2 x3 e0 t0 p0_ p1_
 clear BC BX HB
 have BC := BC3
 have BX := BX3
 have HB := K3
 clear BC3 BX3 K3
 go_wp2_with fail
 go_loopg [7] (xs.length + 1) (fun kq v7 wr => ∃ k : Nat, v7 = .int .i64 k ∧ Aside0 (kq + k = xs.length + 1 ∧ k ≤ xs.length) ∧ Aside0 (Below w.heap.size w wr) ∧ Aside0 (wr.heap[bC]? = some (.cells #[.slice (some ad0) P.length c0, .slice A1 L.length c1, .int .i64 a2, .int .i64 a3, .int .i64 a4, .int .i64 a5, .int .i64 a6, .int .i64 a7, .int .i64 a8, .int .i64 a9, .int .i64 a10, .int .i64 a11, .int .i64 a12] 25 (0, 0))) ∧ Aside0 (wr.heap[bX]? = some (.cells #[.slice A xs.length c, .bool on, .int .i64 st, .slice A3 ag.length c3] 37 (0, 0))))
 case atStart => exact ⟨0, rfl, ⟨by omega⟩, HB, BC, BX⟩
 case round =>
  clear HB BC BX
  obtain ⟨k, rfl, HK, HB, BC, BX⟩ := hrel
  obtain ⟨n0, n1, n2, n3, n4, n5, n6, n7, n8, n9, n10, n11, n12⟩ := cellsK13 BC.out
  obtain ⟨x0, x1, x2, x3⟩ := cellsK4 BX.out
  cases gk with
  | zero => exact absurd HK.out (by omega)
  | succ k1 =>
  by_cases hk : k < xs.length
  ·have d1 : decide (k < xs.length) = true := decide_eq_true hk
   have w1i : wrap64 ((k : Int) + 1) = ((k + 1 : Nat) : Int) := by have := HL.out; unfold wrap64; omega
   obtain ⟨ad, A5, c5, e, y0, y1, y2, y3, y4, y5, y6, y7, hc5, hC5⟩ := at_T55 HX.out.r0 (k : Int) (by omega) (by show (k : Int) < (xs.length : Int); omega)
   cases e
   have hy : rd_T55 xs (k : Int) ∈ xs := by
    have e : rd_T55 xs (k : Int) = xs[k] := by simp [rd_T55, hk]
    rw [e]; exact List.getElem_mem hk
   have HLy := am (HR.out _ hy)
   dsimp only at y0 y1 y2 y3 y4 y5 y6 y7 hc5 hC5
   generalize rd_T55 xs (k : Int) = y at *
   have H5 := am (And.intro hC5 hc5)
   simp only [Int.toNat_natCast] at y0 y1 y2 y3 y4 y5 y6 y7
   have g0 := (HB.out.cell (c_lt y0)).trans y0
   have g1 := (HB.out.cell (c_lt y1)).trans y1
   have g2 := (HB.out.cell (c_lt y2)).trans y2
   have g3 := (HB.out.cell (c_lt y3)).trans y3
   have g4 := (HB.out.cell (c_lt y4)).trans y4
   have g5 := (HB.out.cell (c_lt y5)).trans y5
   have g6 := (HB.out.cell (c_lt y6)).trans y6
   have g7 := (HB.out.cell (c_lt y7)).trans y7
   clear y0 y1 y2 y3 y4 y5 y6 y7 hc5 hC5 hy
   go_upto_region 6 with fail
   have dd0 : wr.drew.cell? ⟨bC, 0, none⟩ = some (.slice (some ad0) P.length c0) := n0
   have dd1 : wr.drew.cell? ⟨bC, 1, none⟩ = some (.slice A1 L.length c1) := n1
   have dd2 : wr.drew.cell? ⟨bC, 2, none⟩ = some (.int .i64 a2) := n2
   have dd3 : wr.drew.cell? ⟨bC, 3, none⟩ = some (.int .i64 a3) := n3
   have dd4 : wr.drew.cell? ⟨bC, 4, none⟩ = some (.int .i64 a4) := n4
   have dd5 : wr.drew.cell? ⟨bC, 5, none⟩ = some (.int .i64 a5) := n5
   have dd6 : wr.drew.cell? ⟨bC, 6, none⟩ = some (.int .i64 a6) := n6
   have dd7 : wr.drew.cell? ⟨bC, 7, none⟩ = some (.int .i64 a7) := n7
   have dd8 : wr.drew.cell? ⟨bC, 8, none⟩ = some (.int .i64 a8) := n8
   have dd9 : wr.drew.cell? ⟨bC, 9, none⟩ = some (.int .i64 a9) := n9
   have dd10 : wr.drew.cell? ⟨bC, 10, none⟩ = some (.int .i64 a10) := n10
   have dd11 : wr.drew.cell? ⟨bC, 11, none⟩ = some (.int .i64 a11) := n11
   have dd12 : wr.drew.cell? ⟨bC, 12, none⟩ = some (.int .i64 a12) := n12
   have dd13 : wr.drew.cell? ⟨bX, 0, none⟩ = some (.slice (some ad) xs.length c) := x0
   have dd14 : wr.drew.cell? (ad.add (k * 8)) = some (.int .i64 y.f0) := g0
   have dd15 : wr.drew.cell? ⟨(ad.add (k * 8)).block, (ad.add (k * 8)).off + 1, none⟩ = some (.int .i64 y.f1) := g1
   have dd16 : wr.drew.cell? ⟨(ad.add (k * 8)).block, (ad.add (k * 8)).off + 2, none⟩ = some (.int .i64 y.f2) := g2
   have dd17 : wr.drew.cell? ⟨(ad.add (k * 8)).block, (ad.add (k * 8)).off + 3, none⟩ = some (.int .i64 y.f3) := g3
   have dd18 : wr.drew.cell? ⟨(ad.add (k * 8)).block, (ad.add (k * 8)).off + 4, none⟩ = some (.int .i64 y.f4) := g4
   have dd19 : wr.drew.cell? ⟨(ad.add (k * 8)).block, (ad.add (k * 8)).off + 5, none⟩ = some (.slice A5 y.f5.length c5) := g5
   have dd20 : wr.drew.cell? ⟨(ad.add (k * 8)).block, (ad.add (k * 8)).off + 6, none⟩ = some (.int .i64 y.f6) := g6
   have dd21 : wr.drew.cell? ⟨(ad.add (k * 8)).block, (ad.add (k * 8)).off + 7, none⟩ = some (.int .i64 y.f7) := g7
   refine start_ (n := 8) (S := fun w' => w'.cell? ⟨bC, 0, none⟩ = some (.slice (some ad0) P.length c0) ∧ w'.cell? ⟨bC, 1, none⟩ = some (.slice A1 L.length c1) ∧ w'.cell? ⟨bC, 2, none⟩ = some (.int .i64 a2) ∧ w'.cell? ⟨bC, 3, none⟩ = some (.int .i64 a3) ∧ w'.cell? ⟨bC, 4, none⟩ = some (.int .i64 a4) ∧ w'.cell? ⟨bC, 5, none⟩ = some (.int .i64 a5) ∧ w'.cell? ⟨bC, 6, none⟩ = some (.int .i64 a6) ∧ w'.cell? ⟨bC, 7, none⟩ = some (.int .i64 a7) ∧ w'.cell? ⟨bC, 8, none⟩ = some (.int .i64 a8) ∧ w'.cell? ⟨bC, 9, none⟩ = some (.int .i64 a9) ∧ w'.cell? ⟨bC, 10, none⟩ = some (.int .i64 a10) ∧ w'.cell? ⟨bC, 11, none⟩ = some (.int .i64 a11) ∧ w'.cell? ⟨bC, 12, none⟩ = some (.int .i64 a12) ∧ w'.cell? ⟨bX, 0, none⟩ = some (.slice (some ad) xs.length c) ∧ w'.cell? (ad.add (k * 8)) = some (.int .i64 y.f0) ∧ w'.cell? ⟨(ad.add (k * 8)).block, (ad.add (k * 8)).off + 1, none⟩ = some (.int .i64 y.f1) ∧ w'.cell? ⟨(ad.add (k * 8)).block, (ad.add (k * 8)).off + 2, none⟩ = some (.int .i64 y.f2) ∧ w'.cell? ⟨(ad.add (k * 8)).block, (ad.add (k * 8)).off + 3, none⟩ = some (.int .i64 y.f3) ∧ w'.cell? ⟨(ad.add (k * 8)).block, (ad.add (k * 8)).off + 4, none⟩ = some (.int .i64 y.f4) ∧ w'.cell? ⟨(ad.add (k * 8)).block, (ad.add (k * 8)).off + 5, none⟩ = some (.slice A5 y.f5.length c5) ∧ w'.cell? ⟨(ad.add (k * 8)).block, (ad.add (k * 8)).off + 6, none⟩ = some (.int .i64 y.f6) ∧ w'.cell? ⟨(ad.add (k * 8)).block, (ad.add (k * 8)).off + 7, none⟩ = some (.int .i64 y.f7)) (ds := []) #[false, false, false, false, false, false, false, false] (by kernel_rfl) rfl rfl ⟨dd0, dd1, dd2, dd3, dd4, dd5, dd6, dd7, dd8, dd9, dd10, dd11, dd12, dd13, dd14, dd15, dd16, dd17, dd18, dd19, dd20, dd21⟩ (fun hHeld => ?_)
   refine pure_ (i := 1) (N := some 32) (v := ?_) (a' := ?_) #[false, true, false, false, false, false, false, false] rfl rfl (by kernel_rfl) (fun _ _ _ h => h) (Or.inl ⟨by rfl, ?_⟩) ?_ ?_
   rotate_left
   ·intro w'
    go_simp
    with_reducible rfl
   rotate_left
   ·simp only [Act.put, sAa, sBb, sCc, i64_w, i32_w]
    rfl
   refine pure_ (i := 3) (N := some 34) (v := ?_) (a' := ?_) #[false, true, false, true, false, false, false, false] rfl rfl (by kernel_rfl) (fun _ _ _ h => h) (Or.inl ⟨by rfl, ?_⟩) ?_ ?_
   rotate_left
   ·intro w'
    go_simp
    with_reducible rfl
   rotate_left
   ·simp only [Act.put, sAa, sBb, sCc, i64_w, i32_w]
    rfl
   refine take_ (i := 0) (N := some 31) (v := ?_) (a' := ?_) #[true, true, false, true, false, false, false, false] rfl rfl (by kernel_rfl) (fun _ _ _ h => h) (Or.inl ⟨by rfl, ?_⟩) hHeld ?_ ?_
   rotate_left
   ·rintro w' ⟨s0, s1, s2, s3, s4, s5, s6, s7, s8, s9, s10, s11, s12, s13, s14, s15, s16, s17, s18, s19, s20, s21⟩
    go_simp
    with_reducible rfl
   rotate_left
   ·simp only [Act.put, sAa, sBb, sCc, i64_w, i32_w]
    rfl
   refine take_ (i := 2) (N := some 33) (v := ?_) (a' := ?_) #[true, true, true, true, false, false, false, false] rfl rfl (by kernel_rfl) (fun _ _ _ h => h) (Or.inl ⟨by rfl, ?_⟩) hHeld ?_ ?_
   rotate_left
   ·rintro w' ⟨s0, s1, s2, s3, s4, s5, s6, s7, s8, s9, s10, s11, s12, s13, s14, s15, s16, s17, s18, s19, s20, s21⟩
    go_simp
    with_reducible rfl
   rotate_left
   ·simp only [Act.put, sAa, sBb, sCc, i64_w, i32_w]
    rfl
   refine pure_ (i := 4) (N := some 35) (v := ?_) (a' := ?_) #[true, true, true, true, true, false, false, false] rfl rfl (by kernel_rfl) (fun _ _ _ h => h) (Or.inl ⟨by rfl, ?_⟩) ?_ ?_
   rotate_left
   ·intro w'
    go_simp
    with_reducible rfl
   rotate_left
   ·simp only [Act.put, sAa, sBb, sCc, i64_w, i32_w]
    rfl
   refine take_ (i := 5) (N := some 36) (v := ?_) (a' := ?_) #[true, true, true, true, true, true, false, false] rfl rfl (by kernel_rfl) (fun _ _ _ h => h) (Or.inl ⟨by rfl, ?_⟩) hHeld ?_ ?_
   rotate_left
   ·rintro w' ⟨s0, s1, s2, s3, s4, s5, s6, s7, s8, s9, s10, s11, s12, s13, s14, s15, s16, s17, s18, s19, s20, s21⟩
    go_simp
    with_reducible rfl
   rotate_left
   ·simp only [Act.put, sAa, sBb, sCc, i64_w, i32_w]
    rfl
   refine one_ (i := 6) (N := some 37) #[true, true, true, true, true, true, true, false] rfl rfl (by kernel_rfl) (by decide) (fun K hK => ?_)
   refine goes_ Tryz.func45 (by kernel_rfl) rfl #[.agg #[.slice (some ad0) P.length c0, .slice A1 L.length c1, .int .i64 a2, .int .i64 a3, .int .i64 a4, .int .i64 a5, .int .i64 a6, .int .i64 a7, .int .i64 a8, .int .i64 a9, .int .i64 a10, .int .i64 a11, .int .i64 a12], .agg #[.int .i64 y.f0, .int .i64 y.f1, .int .i64 y.f2, .int .i64 y.f3, .int .i64 y.f4, .slice A5 y.f5.length c5, .int .i64 y.f6, .int .i64 y.f7]] (by rfl) rfl rfl (by simp only [List.map_toArray, List.map_cons, List.map_nil]; rfl) ?_
   with_reducible refine (dr17_right.calls KR (some ad0) c0 P A1 c1 L a2 a3 a4 a5 a6 a7 a8 a9 a10 a11 a12 y.f0 y.f1 y.f2 y.f3 y.f4 A5 c5 y.f5 y.f6 y.f7 true _ (HN.out.below HB.out.drew).p (HN.out.below HB.out.drew).cp (HN.out.below HB.out.drew).q (HN.out.below HB.out.drew).cq (Kd.C_below H5.out.1 HB.out.drew) H5.out.2 HLy.out).mono ?_
   rintro e w3 ⟨rfl, hb3⟩
   have K3 := am (below_step HB.out.drew hb3)
   have BC3 := am ((hb3.block bC (blk_lt BC.out)).trans BC.out)
   have BX3 := am ((hb3.block bX (blk_lt BX.out)).trans BX.out)
   have z0 := (hb3.cell (c_lt dd0)).trans dd0
   have z1 := (hb3.cell (c_lt dd1)).trans dd1
   have z2 := (hb3.cell (c_lt dd2)).trans dd2
   have z3 := (hb3.cell (c_lt dd3)).trans dd3
   have z4 := (hb3.cell (c_lt dd4)).trans dd4
   have z5 := (hb3.cell (c_lt dd5)).trans dd5
   have z6 := (hb3.cell (c_lt dd6)).trans dd6
   have z7 := (hb3.cell (c_lt dd7)).trans dd7
   have z8 := (hb3.cell (c_lt dd8)).trans dd8
   have z9 := (hb3.cell (c_lt dd9)).trans dd9
   have z10 := (hb3.cell (c_lt dd10)).trans dd10
   have z11 := (hb3.cell (c_lt dd11)).trans dd11
   have z12 := (hb3.cell (c_lt dd12)).trans dd12
   have z13 := (hb3.cell (c_lt dd13)).trans dd13
   have z14 := (hb3.cell (c_lt dd14)).trans dd14
   have z15 := (hb3.cell (c_lt dd15)).trans dd15
   have z16 := (hb3.cell (c_lt dd16)).trans dd16
   have z17 := (hb3.cell (c_lt dd17)).trans dd17
   have z18 := (hb3.cell (c_lt dd18)).trans dd18
   have z19 := (hb3.cell (c_lt dd19)).trans dd19
   have z20 := (hb3.cell (c_lt dd20)).trans dd20
   have z21 := (hb3.cell (c_lt dd21)).trans dd21
   clear hb3
   refine ⟨_, rfl, ?_⟩
   clear hHeld
   refine hK.out _ _ ⟨z0, z1, z2, z3, z4, z5, z6, z7, z8, z9, z10, z11, z12, z13, z14, z15, z16, z17, z18, z19, z20, z21⟩ (fun hHeld => ?_)
   clear hK K
   refine norm_ (a' := ?_) ?_ ?_
   rotate_left
   ·show Act.put _ (some 37) _ = _
    simp only [Act.put, sAa, sBb, sCc, i64_w, i32_w]
    rfl
   refine pure_ (i := 7) (N := some 38) (v := ?_) (a' := ?_) #[true, true, true, true, true, true, true, true] rfl rfl (by kernel_rfl) (fun _ _ _ h => h) (Or.inl ⟨by rfl, ?_⟩) ?_ ?_
   rotate_left
   ·intro w'
    go_simp
    with_reducible rfl
   rotate_left
   ·simp only [Act.put, sAa, sBb, sCc, i64_w, i32_w]
    rfl
   refine done_ (by kernel_rfl) ?_
   clear hHeld
   go_wp2_with fail
   go_roundg k1
   case measure => have := HK.out; omega
   case rel => exact ⟨k + 1, by rw [w1i], ⟨by have := HK.out; omega⟩, K3, BC3, BX3⟩
  ·have d1 : decide (k < xs.length) = false := decide_eq_false hk
   go_wp2_with fail
   refine (dr1_Time.calls st true wr HT.out).mono ?_
   rintro e w5 ⟨rfl, hd⟩
   have HB5 := am (below_step HB.out hd.below)
   have BC5 := am ((hd.below.block bC (blk_lt BC.out)).trans BC.out)
   have BX5 := am ((hd.below.block bX (blk_lt BX.out)).trans BX.out)
   clear hd n0 n1 n2 n3 n4 n5 n6 n7 n8 n9 n10 n11 n12 x0 x1 x2 x3
   obtain ⟨n0, n1, n2, n3, n4, n5, n6, n7, n8, n9, n10, n11, n12⟩ := cellsK13 BC5.out
   obtain ⟨x0, x1, x2, x3⟩ := cellsK4 BX5.out
   go_wp2_with fail
   refine (dr17_ages.calls KR (some ad0) c0 P A1 c1 L a2 a3 a4 a5 a6 a7 a8 a9 a10 a11 a12 A3 c3 ag on true w5 (HN.out.below HB5.out).p (HN.out.below HB5.out).cp (HN.out.below HB5.out).q (HN.out.below HB5.out).cq (HX.out.below HB5.out).r3 (HX.out.below HB5.out).c3 HG.out).mono ?_
   rintro e w6 ⟨rfl, hb⟩
   have HB6 := am (below_step HB5.out hb)
   clear hb
   go_wp2_with fail
   go_ret
   exact ⟨rfl, HB6.out⟩
end Go.Proofs.YtbefbhghmommhaaGreatDoor.MWo
