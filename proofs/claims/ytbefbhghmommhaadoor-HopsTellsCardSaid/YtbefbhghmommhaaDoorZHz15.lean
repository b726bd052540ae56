/- Texts of this claim, laid together by a program (wip/g/merge5.py): HPf. -/
import Derived.Test.YtbefbhghmommhaaDoorZHz14
set_option linter.unusedVariables false
set_option linter.unusedSimpArgs false
namespace Go.Proofs.YtbefbhghmommhaaDoor.MWo
open Go.RowKit Go.Proofs.YtbefbhghmommhaaDoorW.PrintWords Go.Proofs.YtbefbhghmommhaaDoorW.PrintLast Go.Proofs.YtbefbhghmommhaaDoorW.PrintMore
theorem is_any (a0 a1 : Int) (u : Bool) (w : World) (hu : (decide (0 ≤ a0) && decide (a0 < a1)) = u) : Calls Tryd.prog 26 #[.int .i64 a0, .int .i64 a1] w fun e w' => e = .returned (.bool u) ∧ Below w.heap.size w w' :=
 (dr5_is.calls a0 a1 u w (by
  unfold dr5_is.f
  rw [← hu]
  by_cases h : 0 ≤ a0
  ·rw [if_pos h, dT h, Bool.true_and]
  ·rw [if_neg h, dF h, Bool.false_and])).mono fun e w' h => ⟨h.1, h.2.below⟩
set_option maxHeartbeats 8000000 in
set_option maxRecDepth 10000 in
theorem ends_any (A0 : Option Addr) (c0 : Nat) (P : List S43) (A1 : Option Addr) (c1 : Nat) (L : List S39) (a2 a3 a4 a5 a6 a7 a8 a9 a10 a11 a12 : Int) (i part n0 n1 : Int) (w : World) (hr0 : Kd.C k43 w A0 P.length P) (hc0 : P.length ≤ c0) (hr1 : Kd.C k39 w A1 L.length L) (hc1 : L.length ≤ c1) (hL : L.length ≤ 1000) (hi0 : 0 ≤ i) (hi1 : i ≤ L.length) (hp0 : 0 ≤ part) (hp1 : part < P.length) (r : Bool) (hr : (!sideC P (L.take i.toNat) part n0 n1) = r) :
  Calls Tryd.prog 37 #[.agg #[.slice A0 P.length c0, .slice A1 L.length c1, .int .i64 a2, .int .i64 a3, .int .i64 a4, .int .i64 a5, .int .i64 a6, .int .i64 a7, .int .i64 a8, .int .i64 a9, .int .i64 a10, .int .i64 a11, .int .i64 a12], .int .i64 i, .int .i64 part, .agg #[.int .i64 n0, .int .i64 n1]] w fun e w' => e = .returned (.bool r) ∧ Below w.heap.size w w' := by
 have HR0 := am hr0
 have HR1 := am hr1
 have HC0 := am hc0
 have HC1 := am hc1
 have HS := am (And.intro hp0 hp1)
 have HRr := am hr
 obtain ⟨t0, ht0⟩ : ∃ t, (L.take i.toNat).any (takes part n0) = t := ⟨_, rfl⟩
 obtain ⟨u0, hu0⟩ : ∃ u, (decide (0 ≤ n0) && decide (n0 < (rd_T43 P part).f0)) = u := ⟨_, rfl⟩
 have HT0 := am ht0
 have HU0 := am hu0
 obtain ⟨t1, ht1⟩ : ∃ t, (L.take i.toNat).any (takes part n1) = t := ⟨_, rfl⟩
 obtain ⟨u1, hu1⟩ : ∃ u, (decide (0 ≤ n1) && decide (n1 < (rd_T43 P part).f0)) = u := ⟨_, rfl⟩
 have HT1 := am ht1
 have HU1 := am hu1
 have HL := am (show L.length ≤ 1000 ∧ 0 ≤ i ∧ i ≤ (L.length : Int) from ⟨hL, hi0, hi1⟩)
 obtain ⟨ad0, e0, _⟩ := at_T43 hr0 part hp0 hp1
 subst e0
 clear hr0 hr1 hc0 hc1 hp0 hp1 hr ht0 ht1 hu0 hu1 hL hi0 hi1
 go_enter Tryd.func37, Tryd.ntmps37
 go_upto_region 1 with fail
 have HO : Aside0 (((w.alloc (.cells #[.slice (some ad0) P.length c0, .slice A1 L.length c1, .int .i64 a2, .int .i64 a3, .int .i64 a4, .int .i64 a5, .int .i64 a6, .int .i64 a7, .int .i64 a8, .int .i64 a9, .int .i64 a10, .int .i64 a11, .int .i64 a12] 25)).alloc (.cells #[.int .i64 n0, .int .i64 n1] 37)).heap[w.heap.size]? = some (.cells #[.slice (some ad0) P.length c0, .slice A1 L.length c1, .int .i64 a2, .int .i64 a3, .int .i64 a4, .int .i64 a5, .int .i64 a6, .int .i64 a7, .int .i64 a8, .int .i64 a9, .int .i64 a10, .int .i64 a11, .int .i64 a12] 25)) := ⟨by
  have h0 : (w.alloc (.cells #[.slice (some ad0) P.length c0, .slice A1 L.length c1, .int .i64 a2, .int .i64 a3, .int .i64 a4, .int .i64 a5, .int .i64 a6, .int .i64 a7, .int .i64 a8, .int .i64 a9, .int .i64 a10, .int .i64 a11, .int .i64 a12] 25)).heap[w.heap.size]? = some (.cells #[.slice (some ad0) P.length c0, .slice A1 L.length c1, .int .i64 a2, .int .i64 a3, .int .i64 a4, .int .i64 a5, .int .i64 a6, .int .i64 a7, .int .i64 a8, .int .i64 a9, .int .i64 a10, .int .i64 a11, .int .i64 a12] 25) := heap_alloc_new _ _
  exact ((below_alloc (Below.refl _ (w.alloc (.cells #[.slice (some ad0) P.length c0, .slice A1 L.length c1, .int .i64 a2, .int .i64 a3, .int .i64 a4, .int .i64 a5, .int .i64 a6, .int .i64 a7, .int .i64 a8, .int .i64 a9, .int .i64 a10, .int .i64 a11, .int .i64 a12] 25))) _).block _ (blk_lt h0)).trans h0⟩
 have HP : Aside0 (((w.alloc (.cells #[.slice (some ad0) P.length c0, .slice A1 L.length c1, .int .i64 a2, .int .i64 a3, .int .i64 a4, .int .i64 a5, .int .i64 a6, .int .i64 a7, .int .i64 a8, .int .i64 a9, .int .i64 a10, .int .i64 a11, .int .i64 a12] 25)).alloc (.cells #[.int .i64 n0, .int .i64 n1] 37)).heap[w.heap.size + 1]? = some (.cells #[.int .i64 n0, .int .i64 n1] 37)) := ⟨by have := heap_alloc_new (w.alloc (.cells #[.slice (some ad0) P.length c0, .slice A1 L.length c1, .int .i64 a2, .int .i64 a3, .int .i64 a4, .int .i64 a5, .int .i64 a6, .int .i64 a7, .int .i64 a8, .int .i64 a9, .int .i64 a10, .int .i64 a11, .int .i64 a12] 25)) (.cells #[.int .i64 n0, .int .i64 n1] 37); simpa using this⟩
 have HB := am (below_alloc (below_alloc (Below.refl w.heap.size w) (Obj.cells #[.slice (some ad0) P.length c0, .slice A1 L.length c1, .int .i64 a2, .int .i64 a3, .int .i64 a4, .int .i64 a5, .int .i64 a6, .int .i64 a7, .int .i64 a8, .int .i64 a9, .int .i64 a10, .int .i64 a11, .int .i64 a12] 25)) (Obj.cells #[.int .i64 n0, .int .i64 n1] 37))
 generalize (w.alloc (.cells #[.slice (some ad0) P.length c0, .slice A1 L.length c1, .int .i64 a2, .int .i64 a3, .int .i64 a4, .int .i64 a5, .int .i64 a6, .int .i64 a7, .int .i64 a8, .int .i64 a9, .int .i64 a10, .int .i64 a11, .int .i64 a12] 25)).alloc (.cells #[.int .i64 n0, .int .i64 n1] 37) = wa at *
 obtain ⟨bp, hbp⟩ : ∃ bp, bp = w.heap.size + 1 := ⟨_, rfl⟩
 obtain ⟨bx, hbx⟩ : ∃ bx, bx = w.heap.size := ⟨_, rfl⟩
 rw [← hbp, ← hbx]
 rw [← hbx] at HO
 rw [← hbp] at HP
 clear hbx hbp
 have c0 : wa.cell? ⟨bp, 0, none⟩ = some (.int .i64 n0) := (blk_cell HP.out 0).trans rfl
 have c1 : wa.cell? ⟨bp, 1, none⟩ = some (.int .i64 n1) := (blk_cell HP.out 1).trans rfl
 rcases Bool.eq_false_or_eq_true (n0 == n1) with hne | hne
 ·have e_ : r = true := by rw [← HRr.out]; unfold sideC; rw [hne]; rfl
  subst e_
  go_wp2_with fail
  go_ret
  exact ⟨rfl, HB.out⟩
 have HNe := am hne
 go_wp2_with fail
 clear c0 c1 hne
 go_loopg [9] 3 (fun kq v9 w' => ∃ k : Nat, v9 = .int .i64 k ∧ Aside0 (kq + k = 3 ∧ k ≤ 2) ∧ Aside0 (Below w.heap.size w w') ∧ Aside0 (w'.heap[bx]? = some (.cells #[.slice (some ad0) P.length c0, .slice A1 L.length c1, .int .i64 a2, .int .i64 a3, .int .i64 a4, .int .i64 a5, .int .i64 a6, .int .i64 a7, .int .i64 a8, .int .i64 a9, .int .i64 a10, .int .i64 a11, .int .i64 a12] 25)) ∧ Aside0 (w'.heap[bp]? = some (.cells #[.int .i64 n0, .int .i64 n1] 37)) ∧ Aside0 ((1 ≤ k → nodeC P (L.take i.toNat) part n0 = true) ∧ (2 ≤ k → nodeC P (L.take i.toNat) part n1 = true)))
 case atStart => exact ⟨0, rfl, ⟨by omega⟩, HB, HO, HP, ⟨fun h => absurd h (by omega), fun h => absurd h (by omega)⟩⟩
 case round =>
  clear HO HB HP
  obtain ⟨k, rfl, HK, HB, HO, HP, HD⟩ := hrel
  cases gk with
  | zero => exact absurd HK.out (by omega)
  | succ k1 =>
  rcases (show k = 0 ∨ k = 1 ∨ k = 2 from by have := HK.out; omega) with e | e | e
  ·subst e
   go_upto_region 6 with fail
   have HBd := am (below_drew HB.out)
   have HOd : Aside0 (wr.drew.heap[bx]? = some (.cells #[.slice (some ad0) P.length c0, .slice A1 L.length c1, .int .i64 a2, .int .i64 a3, .int .i64 a4, .int .i64 a5, .int .i64 a6, .int .i64 a7, .int .i64 a8, .int .i64 a9, .int .i64 a10, .int .i64 a11, .int .i64 a12] 25)) := ⟨HO.out⟩
   have HPd : Aside0 (wr.drew.heap[bp]? = some (.cells #[.int .i64 n0, .int .i64 n1] 37)) := ⟨HP.out⟩
   refine start_ (n := 13) (S := fun w' => w'.cell? ⟨bx, 0, none⟩ = some (.slice (some ad0) P.length c0) ∧ w'.cell? ⟨bx, 1, none⟩ = some (.slice A1 L.length c1) ∧ w'.cell? ⟨bx, 2, none⟩ = some (.int .i64 a2) ∧ w'.cell? ⟨bx, 3, none⟩ = some (.int .i64 a3) ∧ w'.cell? ⟨bx, 4, none⟩ = some (.int .i64 a4) ∧ w'.cell? ⟨bx, 5, none⟩ = some (.int .i64 a5) ∧ w'.cell? ⟨bx, 6, none⟩ = some (.int .i64 a6) ∧ w'.cell? ⟨bx, 7, none⟩ = some (.int .i64 a7) ∧ w'.cell? ⟨bx, 8, none⟩ = some (.int .i64 a8) ∧ w'.cell? ⟨bx, 9, none⟩ = some (.int .i64 a9) ∧ w'.cell? ⟨bx, 10, none⟩ = some (.int .i64 a10) ∧ w'.cell? ⟨bx, 11, none⟩ = some (.int .i64 a11) ∧ w'.cell? ⟨bx, 12, none⟩ = some (.int .i64 a12) ∧ w'.cell? ⟨bp, 0, none⟩ = some (.int .i64 n0)) (ds := [11]) #[false, false, false, false, false, false, false, false, false, false, false, false, false] (by kernel_rfl) rfl rfl ⟨(blk_cell HOd.out 0).trans rfl, (blk_cell HOd.out 1).trans rfl, (blk_cell HOd.out 2).trans rfl, (blk_cell HOd.out 3).trans rfl, (blk_cell HOd.out 4).trans rfl, (blk_cell HOd.out 5).trans rfl, (blk_cell HOd.out 6).trans rfl, (blk_cell HOd.out 7).trans rfl, (blk_cell HOd.out 8).trans rfl, (blk_cell HOd.out 9).trans rfl, (blk_cell HOd.out 10).trans rfl, (blk_cell HOd.out 11).trans rfl, (blk_cell HOd.out 12).trans rfl, (blk_cell HPd.out 0).trans rfl⟩ (fun hHeld => ?_)
   generalize wr.drew = wd at HBd HOd HPd hHeld ⊢
   refine pu 1 23 ?_
   refine pu 2 24 ?_
   refine pu 3 25 ?_
   refine pu 4 26 ?_
   refine tk14 0 22 ?_
   refine tk14 5 27 ?_
   refine join_ (σ := Nat × Int × Int × Int × Int) 2 #[true, true, true, true, true, true, true, true, true, true, true, false, false] (fun s_ => [(28, .tuple #[.agg #[.int .i64 s_.2.1, .int .i64 s_.2.2.1, .int .i64 s_.2.2.2.1, .int .i64 s_.2.2.2.2], .bool t0]), (10, .pointer (some ⟨s_.1, 0, none⟩)), (21, .tuple #[.agg #[.int .i64 s_.2.1, .int .i64 s_.2.2.1, .int .i64 s_.2.2.2.1, .int .i64 s_.2.2.2.2], .bool t0]), (29, .agg #[.int .i64 s_.2.1, .int .i64 s_.2.2.1, .int .i64 s_.2.2.2.1, .int .i64 s_.2.2.2.2]), (30, .bool t0)]) (fun s_ w' => (w'.cell? ⟨bx, 0, none⟩ = some (.slice (some ad0) P.length c0) ∧ w'.cell? ⟨bx, 1, none⟩ = some (.slice A1 L.length c1) ∧ w'.cell? ⟨bx, 2, none⟩ = some (.int .i64 a2) ∧ w'.cell? ⟨bx, 3, none⟩ = some (.int .i64 a3) ∧ w'.cell? ⟨bx, 4, none⟩ = some (.int .i64 a4) ∧ w'.cell? ⟨bx, 5, none⟩ = some (.int .i64 a5) ∧ w'.cell? ⟨bx, 6, none⟩ = some (.int .i64 a6) ∧ w'.cell? ⟨bx, 7, none⟩ = some (.int .i64 a7) ∧ w'.cell? ⟨bx, 8, none⟩ = some (.int .i64 a8) ∧ w'.cell? ⟨bx, 9, none⟩ = some (.int .i64 a9) ∧ w'.cell? ⟨bx, 10, none⟩ = some (.int .i64 a10) ∧ w'.cell? ⟨bx, 11, none⟩ = some (.int .i64 a11) ∧ w'.cell? ⟨bx, 12, none⟩ = some (.int .i64 a12) ∧ w'.cell? ⟨bp, 0, none⟩ = some (.int .i64 n0)) ∧ w'.heap[bx]? = some (.cells #[.slice (some ad0) P.length c0, .slice A1 L.length c1, .int .i64 a2, .int .i64 a3, .int .i64 a4, .int .i64 a5, .int .i64 a6, .int .i64 a7, .int .i64 a8, .int .i64 a9, .int .i64 a10, .int .i64 a11, .int .i64 a12] 25) ∧ w'.heap[bp]? = some (.cells #[.int .i64 n0, .int .i64 n1] 37) ∧ w'.heap[s_.1]? = some (.cells #[.int .i64 0, .int .i64 0, .int .i64 0, .int .i64 0] 93) ∧ w.heap.size ≤ s_.1 ∧ Below w.heap.size w w') ?_ ?_
   rotate_left
   ·intro hCont
    refine two_ (i := 6) (j := 10) (Ni := some 28) (Nj := some 10) #[true, true, true, true, true, true, true, false, false, false, false, false, false] #[true, true, true, true, true, true, false, false, false, false, true, false, false] rfl rfl rfl rfl (by kernel_rfl) (by decide) (by decide) (fun K hK => ?_) (fun K hK => ?_)
    ·skip
     refine goes_ Tryd.func48 (by kernel_rfl) rfl #[.agg #[.slice (some ad0) P.length c0, .slice A1 L.length c1, .int .i64 a2, .int .i64 a3, .int .i64 a4, .int .i64 a5, .int .i64 a6, .int .i64 a7, .int .i64 a8, .int .i64 a9, .int .i64 a10, .int .i64 a11, .int .i64 a12], .int .i64 i, .int .i64 part, .int .i64 n0] (by rfl) rfl rfl lm ?_
     with_reducible refine (port_any (some ad0) c0 P A1 c1 L a2 a3 a4 a5 a6 a7 a8 a9 a10 a11 a12 i part n0 (wd) (Kd.C_below HR0.out HBd.out) HC0.out (Kd.C_below HR1.out HBd.out) HC1.out HL.out.1 HL.out.2.1 HL.out.2.2 t0 HT0.out).mono ?_
     rintro e w3 ⟨⟨v0, v1, v2, v3, rfl⟩, hb⟩
     have HB3 := am (below_step HBd.out hb)
     have HO3 := am ((hb.block bx (blk_lt HOd.out)).trans HOd.out)
     have HP3 := am ((hb.block bp (blk_lt HPd.out)).trans HPd.out)
     clear hb
     refine ⟨_, rfl, ?_⟩
     refine hK.out _ _ ⟨(blk_cell HO3.out 0).trans rfl, (blk_cell HO3.out 1).trans rfl, (blk_cell HO3.out 2).trans rfl, (blk_cell HO3.out 3).trans rfl, (blk_cell HO3.out 4).trans rfl, (blk_cell HO3.out 5).trans rfl, (blk_cell HO3.out 6).trans rfl, (blk_cell HO3.out 7).trans rfl, (blk_cell HO3.out 8).trans rfl, (blk_cell HO3.out 9).trans rfl, (blk_cell HO3.out 10).trans rfl, (blk_cell HO3.out 11).trans rfl, (blk_cell HO3.out 12).trans rfl, (blk_cell HP3.out 0).trans rfl⟩ (fun hHeld => ?_)
     clear hK K
     refine norm_ (a' := ?_) ?_ ?_
     rotate_left
     ·show Act.put _ (some 28) _ = _
      simp only [Act.put, sAa, sBb, sCc, i64_w, i32_w]
      rfl
     refine pu 7 21 ?_
     refine pu 8 29 ?_
     refine pu 9 30 ?_
     refine on 10 10 (fun K hK => ?_)
     refine value_ (w1 := ?_) (v := ?_) (by rfl) rfl ?_ ?_
     rotate_left 2
     ·go_simp
      constructor
      ·rfl
      ·rfl
     have HO4 := am (((below_alloc (Below.refl w3.heap.size w3) (Obj.cells #[.int .i64 0, .int .i64 0, .int .i64 0, .int .i64 0] 93)).block bx (blk_lt HO3.out)).trans HO3.out)
     have HP4 := am (((below_alloc (Below.refl w3.heap.size w3) (Obj.cells #[.int .i64 0, .int .i64 0, .int .i64 0, .int .i64 0] 93)).block bp (blk_lt HP3.out)).trans HP3.out)
     refine hK.out _ _ ⟨(blk_cell HO4.out 0).trans rfl, (blk_cell HO4.out 1).trans rfl, (blk_cell HO4.out 2).trans rfl, (blk_cell HO4.out 3).trans rfl, (blk_cell HO4.out 4).trans rfl, (blk_cell HO4.out 5).trans rfl, (blk_cell HO4.out 6).trans rfl, (blk_cell HO4.out 7).trans rfl, (blk_cell HO4.out 8).trans rfl, (blk_cell HO4.out 9).trans rfl, (blk_cell HO4.out 10).trans rfl, (blk_cell HO4.out 11).trans rfl, (blk_cell HO4.out 12).trans rfl, (blk_cell HP4.out 0).trans rfl⟩ (fun hHeld => ?_)
     clear hK K
     refine norm_ (a' := ?_) ?_ ?_
     rotate_left
     ·show Act.put _ (some 10) _ = _
      simp only [Act.put, sAa, sBb, sCc, i64_w, i32_w]
      rfl
     exact norm_ (by simp only [putAll, Act.put, sAa, sBb, sCc]) (hCont (w3.heap.size, v0, v1, v2, v3) _ ⟨⟨(blk_cell HO4.out 0).trans rfl, (blk_cell HO4.out 1).trans rfl, (blk_cell HO4.out 2).trans rfl, (blk_cell HO4.out 3).trans rfl, (blk_cell HO4.out 4).trans rfl, (blk_cell HO4.out 5).trans rfl, (blk_cell HO4.out 6).trans rfl, (blk_cell HO4.out 7).trans rfl, (blk_cell HO4.out 8).trans rfl, (blk_cell HO4.out 9).trans rfl, (blk_cell HO4.out 10).trans rfl, (blk_cell HO4.out 11).trans rfl, (blk_cell HO4.out 12).trans rfl, (blk_cell HP4.out 0).trans rfl⟩, HO4.out, HP4.out, heap_alloc_new w3 (.cells #[.int .i64 0, .int .i64 0, .int .i64 0, .int .i64 0] 93), HB3.out.size, below_alloc HB3.out _⟩)
    ·skip
     refine value_ (w1 := ?_) (v := ?_) (by rfl) rfl ?_ ?_
     rotate_left 2
     ·go_simp
      constructor
      ·rfl
      ·rfl
     have HO4 := am (((below_alloc (Below.refl wd.heap.size wd) (Obj.cells #[.int .i64 0, .int .i64 0, .int .i64 0, .int .i64 0] 93)).block bx (blk_lt HOd.out)).trans HOd.out)
     have HP4 := am (((below_alloc (Below.refl wd.heap.size wd) (Obj.cells #[.int .i64 0, .int .i64 0, .int .i64 0, .int .i64 0] 93)).block bp (blk_lt HPd.out)).trans HPd.out)
     refine hK.out _ _ ⟨(blk_cell HO4.out 0).trans rfl, (blk_cell HO4.out 1).trans rfl, (blk_cell HO4.out 2).trans rfl, (blk_cell HO4.out 3).trans rfl, (blk_cell HO4.out 4).trans rfl, (blk_cell HO4.out 5).trans rfl, (blk_cell HO4.out 6).trans rfl, (blk_cell HO4.out 7).trans rfl, (blk_cell HO4.out 8).trans rfl, (blk_cell HO4.out 9).trans rfl, (blk_cell HO4.out 10).trans rfl, (blk_cell HO4.out 11).trans rfl, (blk_cell HO4.out 12).trans rfl, (blk_cell HP4.out 0).trans rfl⟩ (fun hHeld => ?_)
     clear hK K
     refine norm_ (a' := ?_) ?_ ?_
     rotate_left
     ·show Act.put _ (some 10) _ = _
      simp only [Act.put, sAa, sBb, sCc, i64_w, i32_w]
      rfl
     refine on 6 28 (fun K hK => ?_)
     refine goes_ Tryd.func48 (by kernel_rfl) rfl #[.agg #[.slice (some ad0) P.length c0, .slice A1 L.length c1, .int .i64 a2, .int .i64 a3, .int .i64 a4, .int .i64 a5, .int .i64 a6, .int .i64 a7, .int .i64 a8, .int .i64 a9, .int .i64 a10, .int .i64 a11, .int .i64 a12], .int .i64 i, .int .i64 part, .int .i64 n0] (by rfl) rfl rfl lm ?_
     with_reducible refine (port_any (some ad0) c0 P A1 c1 L a2 a3 a4 a5 a6 a7 a8 a9 a10 a11 a12 i part n0 (wd.alloc (.cells #[.int .i64 0, .int .i64 0, .int .i64 0, .int .i64 0] 93)) (Kd.C_below HR0.out (below_alloc HBd.out (Obj.cells #[.int .i64 0, .int .i64 0, .int .i64 0, .int .i64 0] 93))) HC0.out (Kd.C_below HR1.out (below_alloc HBd.out (Obj.cells #[.int .i64 0, .int .i64 0, .int .i64 0, .int .i64 0] 93))) HC1.out HL.out.1 HL.out.2.1 HL.out.2.2 t0 HT0.out).mono ?_
     rintro e w3 ⟨⟨v0, v1, v2, v3, rfl⟩, hb⟩
     have HB3 := am (below_step (below_alloc HBd.out (Obj.cells #[.int .i64 0, .int .i64 0, .int .i64 0, .int .i64 0] 93)) hb)
     have HO3 := am ((hb.block bx (blk_lt (((below_alloc (Below.refl wd.heap.size wd) (Obj.cells #[.int .i64 0, .int .i64 0, .int .i64 0, .int .i64 0] 93)).block bx (blk_lt HOd.out)).trans HOd.out))).trans (((below_alloc (Below.refl wd.heap.size wd) (Obj.cells #[.int .i64 0, .int .i64 0, .int .i64 0, .int .i64 0] 93)).block bx (blk_lt HOd.out)).trans HOd.out))
     have HP3 := am ((hb.block bp (blk_lt (((below_alloc (Below.refl wd.heap.size wd) (Obj.cells #[.int .i64 0, .int .i64 0, .int .i64 0, .int .i64 0] 93)).block bp (blk_lt HPd.out)).trans HPd.out))).trans (((below_alloc (Below.refl wd.heap.size wd) (Obj.cells #[.int .i64 0, .int .i64 0, .int .i64 0, .int .i64 0] 93)).block bp (blk_lt HPd.out)).trans HPd.out))
     have HZ3 := am ((hb.block wd.heap.size (blk_lt (heap_alloc_new wd (.cells #[.int .i64 0, .int .i64 0, .int .i64 0, .int .i64 0] 93)))).trans (heap_alloc_new wd (.cells #[.int .i64 0, .int .i64 0, .int .i64 0, .int .i64 0] 93)))
     clear hb
     refine ⟨_, rfl, ?_⟩
     refine hK.out _ _ ⟨(blk_cell HO3.out 0).trans rfl, (blk_cell HO3.out 1).trans rfl, (blk_cell HO3.out 2).trans rfl, (blk_cell HO3.out 3).trans rfl, (blk_cell HO3.out 4).trans rfl, (blk_cell HO3.out 5).trans rfl, (blk_cell HO3.out 6).trans rfl, (blk_cell HO3.out 7).trans rfl, (blk_cell HO3.out 8).trans rfl, (blk_cell HO3.out 9).trans rfl, (blk_cell HO3.out 10).trans rfl, (blk_cell HO3.out 11).trans rfl, (blk_cell HO3.out 12).trans rfl, (blk_cell HP3.out 0).trans rfl⟩ (fun hHeld => ?_)
     clear hK K
     refine norm_ (a' := ?_) ?_ ?_
     rotate_left
     ·show Act.put _ (some 28) _ = _
      simp only [Act.put, sAa, sBb, sCc, i64_w, i32_w]
      rfl
     refine pu 7 21 ?_
     refine pu 8 29 ?_
     refine pu 9 30 ?_
     exact norm_ (by simp only [putAll, Act.put, sAa, sBb, sCc]) (hCont (wd.heap.size, v0, v1, v2, v3) _ ⟨⟨(blk_cell HO3.out 0).trans rfl, (blk_cell HO3.out 1).trans rfl, (blk_cell HO3.out 2).trans rfl, (blk_cell HO3.out 3).trans rfl, (blk_cell HO3.out 4).trans rfl, (blk_cell HO3.out 5).trans rfl, (blk_cell HO3.out 6).trans rfl, (blk_cell HO3.out 7).trans rfl, (blk_cell HO3.out 8).trans rfl, (blk_cell HO3.out 9).trans rfl, (blk_cell HO3.out 10).trans rfl, (blk_cell HO3.out 11).trans rfl, (blk_cell HO3.out 12).trans rfl, (blk_cell HP3.out 0).trans rfl⟩, HO3.out, HP3.out, HZ3.out, HBd.out.size, HB3.out⟩)
   rintro ⟨s_, v0, v1, v2, v3⟩ w5 ⟨hHeld, hO, hP, hZ, hS, hB⟩
   dsimp only at hHeld hO hP hZ hS hB ⊢
   have HO5 := am hO
   have HP5 := am hP
   have HZ5 := am hZ
   have HS5 := am hS
   have HB5 := am hB
   clear hO hP hZ hS hB
   refine norm_ (a' := ?_) ?_ ?_
   rotate_left
   ·simp only [putAll, Act.put, sAa, sBb, sCc]
    rfl
   refine lan 11 (fun K hK => ?_)
   obtain ⟨z0, z1, z2, z3⟩ := cellsK4 HZ5.out
   obtain ⟨zf0, zf1, zf2, zf3⟩ := frozK4 HZ5.out
   refine skip_ (w1 := ?_) (by rfl) rfl ?_ ?_
   rotate_left
   ·go_simp
    rfl
   refine hK.out _ _ ?_
   clear hK K
   refine pu 12 11 ?_
   refine done_ (by kernel_rfl) ?_
   have HNx : Aside0 (bx ≠ s_ ∧ bp ≠ s_) := ⟨by
    refine ⟨?_, ?_⟩
    ·rintro rfl
     have h1 := HO5.out
     rw [HZ5.out] at h1
     injection h1 with h1
     injection h1 with _ h1 _
     exact absurd h1 (by decide)
    ·rintro rfl
     have h1 := HP5.out
     rw [HZ5.out] at h1
     injection h1 with h1
     injection h1 with _ h1 _
     exact absurd h1 (by decide)⟩
   have HK5 : Aside0 (∀ k, k ≠ s_ → ((((w5.setCell ⟨s_, 0, none⟩ (.int .i64 v0)).setCell ⟨s_, 1, none⟩ (.int .i64 v1)).setCell ⟨s_, 2, none⟩ (.int .i64 v2)).setCell ⟨s_, 3, none⟩ (.int .i64 v3)).heap[k]? = w5.heap[k]?) := ⟨fun k hk => (Below.heap_setCell _ _ _ k hk).trans ((Below.heap_setCell _ _ _ k hk).trans ((Below.heap_setCell _ _ _ k hk).trans (Below.heap_setCell _ _ _ k hk)))⟩
   have HB6 : Aside0 (Below w.heap.size w ((((w5.setCell ⟨s_, 0, none⟩ (.int .i64 v0)).setCell ⟨s_, 1, none⟩ (.int .i64 v1)).setCell ⟨s_, 2, none⟩ (.int .i64 v2)).setCell ⟨s_, 3, none⟩ (.int .i64 v3))) := ⟨(((HB5.out.setCell HS5.out _).setCell HS5.out _).setCell HS5.out _).setCell HS5.out _⟩
   clear z0 z1 z2 z3 zf0 zf1 zf2 zf3
   generalize ((((w5.setCell ⟨s_, 0, none⟩ (.int .i64 v0)).setCell ⟨s_, 1, none⟩ (.int .i64 v1)).setCell ⟨s_, 2, none⟩ (.int .i64 v2)).setCell ⟨s_, 3, none⟩ (.int .i64 v3)) = w6 at *
   have HO6 := am ((HK5.out bx HNx.out.1).trans HO5.out)
   have HP6 := am ((HK5.out bp HNx.out.2).trans HP5.out)
   clear HO5 HP5 HZ5 HS5 HB5 HK5 HNx
   go_upto_region 7 with fail
   have HBe := am (below_drew HB6.out)
   have HOe : Aside0 (w6.drew.heap[bx]? = some (.cells #[.slice (some ad0) P.length c0, .slice A1 L.length c1, .int .i64 a2, .int .i64 a3, .int .i64 a4, .int .i64 a5, .int .i64 a6, .int .i64 a7, .int .i64 a8, .int .i64 a9, .int .i64 a10, .int .i64 a11, .int .i64 a12] 25)) := ⟨HO6.out⟩
   have HPe : Aside0 (w6.drew.heap[bp]? = some (.cells #[.int .i64 n0, .int .i64 n1] 37)) := ⟨HP6.out⟩
   have hq0 := HS.out.1
   have hq1 := HS.out.2
   have hq0_ := eq_true hq0
   have hq1_ := eq_true hq1
   obtain ⟨ad', e0, z0, z1⟩ := at_T43 (Kd.C_below HR0.out HBe.out) part hq0 hq1
   have e0' := Option.some.inj e0
   subst e0'
   clear e0
   refine start_ (n := 14) (S := fun w' => w'.cell? ⟨bp, 0, none⟩ = some (.int .i64 n0) ∧ w'.cell? ⟨bx, 0, none⟩ = some (.slice (some ad0) P.length c0) ∧ w'.cell? (ad0.add (part.toNat * 2)) = some (.int .i64 (rd_T43 P part).f0)) (ds := []) #[false, false, false, false, false, false, false, false, false, false, false, false, false, false] (by kernel_rfl) rfl rfl ⟨(blk_cell HPe.out 0).trans rfl, (blk_cell HOe.out 0).trans rfl, z0⟩ (fun hHeld => ?_)
   generalize w6.drew = we at HBe HOe HPe z0 z1 hHeld ⊢
   refine pu 0 31 ?_
   refine pu 1 32 ?_
   refine pu 3 34 ?_
   refine pu 5 36 ?_
   refine tk3 2 33 ?_
   refine tk3 4 35 ?_
   refine pu 6 37 ?_
   refine pu 7 38 ?_
   refine tk3 8 39 ?_
   refine on 9 40 (fun K hK => ?_)
   refine goes_ Tryd.func26 (by kernel_rfl) rfl #[.int .i64 n0, .int .i64 (rd_T43 P part).f0] (by rfl) rfl rfl lm ?_
   with_reducible refine (is_any n0 (rd_T43 P part).f0 u0 _ HU0.out).mono ?_
   rintro e w7 ⟨rfl, hb⟩
   have HB7 := am (below_step HBe.out hb)
   have HO7 := am ((hb.block bx (blk_lt HOe.out)).trans HOe.out)
   have HP7 := am ((hb.block bp (blk_lt HPe.out)).trans HPe.out)
   have z7 := (hb.cell (block_lt_of_cell z0)).trans z0
   clear hb
   refine ⟨_, rfl, ?_⟩
   refine hK.out _ _ ⟨(blk_cell HP7.out 0).trans rfl, (blk_cell HO7.out 0).trans rfl, z7⟩ (fun hHeld => ?_)
   clear hK K
   refine norm_ (a' := ?_) ?_ ?_
   rotate_left
   ·show Act.put _ (some 40) _ = _
    simp only [Act.put, sAa, sBb, sCc, i64_w, i32_w]
    rfl
   rcases Bool.eq_false_or_eq_true u0 with e_ | e_
   rotate_left
   ·subst e_
    have e_ : r = true := by rw [← HRr.out]; unfold sideC nodeC; rw [HNe.out, HU0.out]; cases (decide (0 ≤ n0) && decide (n0 < (rd_T43 P part).f0)) <;> cases (decide (0 ≤ n1) && decide (n1 < (rd_T43 P part).f0)) <;> cases (L.take i.toNat).any (takes part n0) <;> cases (L.take i.toNat).any (takes part n1) <;> rfl
    subst e_
    refine pu 10 41 ?_
    refine pu 11 42 ?_
    refine pure_ (i := 12) (N := some 43) (v := undef) (a' := ?_) #[true, true, true, true, true, true, true, true, true, true, true, true, true, false] rfl rfl (by kernel_rfl) (fun _ _ _ h => h) (Or.inr ⟨by rfl, rfl⟩) ?_ ?_
    rotate_left
    ·simp only [Act.put, sAa, sBb, sCc, i64_w, i32_w]
     rfl
    refine pu 13 44 ?_
    refine done_ (by kernel_rfl) ?_
    clear z0 z1 z7
    go_wp2_with fail
    go_ret
    exact ⟨rfl, HB7.out⟩
   subst e_
   refine pu 10 41 ?_
   refine pu 11 42 ?_
   refine pu 12 43 ?_
   refine pu 13 44 ?_
   refine done_ (by kernel_rfl) ?_
   clear z0 z1 z7
   rcases Bool.eq_false_or_eq_true t0 with e_ | e_
   ·subst e_
    have e_ : r = true := by rw [← HRr.out]; unfold sideC nodeC; rw [HNe.out, HT0.out]; cases (decide (0 ≤ n0) && decide (n0 < (rd_T43 P part).f0)) <;> cases (decide (0 ≤ n1) && decide (n1 < (rd_T43 P part).f0)) <;> cases (L.take i.toNat).any (takes part n0) <;> cases (L.take i.toNat).any (takes part n1) <;> rfl
    subst e_
    go_wp2_with fail
    go_ret
    exact ⟨rfl, HB7.out⟩
   subst e_
   have HM : Aside0 (nodeC P (L.take i.toNat) part n0 = true) := ⟨by unfold nodeC; rw [HU0.out, HT0.out]; rfl⟩
   go_wp2_with fail
   go_roundg k1
   case measure => have := HK.out; omega
   case rel => exact ⟨1, rfl, ⟨by have := HK.out; omega⟩, HB7, HO7, HP7, ⟨fun _ => HM.out, fun h => absurd h (by omega)⟩⟩
  ·subst e
   go_upto_region 6 with fail
   have HBd := am (below_drew HB.out)
   have HOd : Aside0 (wr.drew.heap[bx]? = some (.cells #[.slice (some ad0) P.length c0, .slice A1 L.length c1, .int .i64 a2, .int .i64 a3, .int .i64 a4, .int .i64 a5, .int .i64 a6, .int .i64 a7, .int .i64 a8, .int .i64 a9, .int .i64 a10, .int .i64 a11, .int .i64 a12] 25)) := ⟨HO.out⟩
   have HPd : Aside0 (wr.drew.heap[bp]? = some (.cells #[.int .i64 n0, .int .i64 n1] 37)) := ⟨HP.out⟩
   refine start_ (n := 13) (S := fun w' => w'.cell? ⟨bx, 0, none⟩ = some (.slice (some ad0) P.length c0) ∧ w'.cell? ⟨bx, 1, none⟩ = some (.slice A1 L.length c1) ∧ w'.cell? ⟨bx, 2, none⟩ = some (.int .i64 a2) ∧ w'.cell? ⟨bx, 3, none⟩ = some (.int .i64 a3) ∧ w'.cell? ⟨bx, 4, none⟩ = some (.int .i64 a4) ∧ w'.cell? ⟨bx, 5, none⟩ = some (.int .i64 a5) ∧ w'.cell? ⟨bx, 6, none⟩ = some (.int .i64 a6) ∧ w'.cell? ⟨bx, 7, none⟩ = some (.int .i64 a7) ∧ w'.cell? ⟨bx, 8, none⟩ = some (.int .i64 a8) ∧ w'.cell? ⟨bx, 9, none⟩ = some (.int .i64 a9) ∧ w'.cell? ⟨bx, 10, none⟩ = some (.int .i64 a10) ∧ w'.cell? ⟨bx, 11, none⟩ = some (.int .i64 a11) ∧ w'.cell? ⟨bx, 12, none⟩ = some (.int .i64 a12) ∧ w'.cell? ⟨bp, 1, none⟩ = some (.int .i64 n1)) (ds := [11]) #[false, false, false, false, false, false, false, false, false, false, false, false, false] (by kernel_rfl) rfl rfl ⟨(blk_cell HOd.out 0).trans rfl, (blk_cell HOd.out 1).trans rfl, (blk_cell HOd.out 2).trans rfl, (blk_cell HOd.out 3).trans rfl, (blk_cell HOd.out 4).trans rfl, (blk_cell HOd.out 5).trans rfl, (blk_cell HOd.out 6).trans rfl, (blk_cell HOd.out 7).trans rfl, (blk_cell HOd.out 8).trans rfl, (blk_cell HOd.out 9).trans rfl, (blk_cell HOd.out 10).trans rfl, (blk_cell HOd.out 11).trans rfl, (blk_cell HOd.out 12).trans rfl, (blk_cell HPd.out 1).trans rfl⟩ (fun hHeld => ?_)
   generalize wr.drew = wd at HBd HOd HPd hHeld ⊢
   refine pu 1 23 ?_
   refine pu 2 24 ?_
   refine pu 3 25 ?_
   refine pu 4 26 ?_
   refine tk14 0 22 ?_
   refine tk14 5 27 ?_
   refine join_ (σ := Nat × Int × Int × Int × Int) 2 #[true, true, true, true, true, true, true, true, true, true, true, false, false] (fun s_ => [(28, .tuple #[.agg #[.int .i64 s_.2.1, .int .i64 s_.2.2.1, .int .i64 s_.2.2.2.1, .int .i64 s_.2.2.2.2], .bool t1]), (10, .pointer (some ⟨s_.1, 0, none⟩)), (21, .tuple #[.agg #[.int .i64 s_.2.1, .int .i64 s_.2.2.1, .int .i64 s_.2.2.2.1, .int .i64 s_.2.2.2.2], .bool t1]), (29, .agg #[.int .i64 s_.2.1, .int .i64 s_.2.2.1, .int .i64 s_.2.2.2.1, .int .i64 s_.2.2.2.2]), (30, .bool t1)]) (fun s_ w' => (w'.cell? ⟨bx, 0, none⟩ = some (.slice (some ad0) P.length c0) ∧ w'.cell? ⟨bx, 1, none⟩ = some (.slice A1 L.length c1) ∧ w'.cell? ⟨bx, 2, none⟩ = some (.int .i64 a2) ∧ w'.cell? ⟨bx, 3, none⟩ = some (.int .i64 a3) ∧ w'.cell? ⟨bx, 4, none⟩ = some (.int .i64 a4) ∧ w'.cell? ⟨bx, 5, none⟩ = some (.int .i64 a5) ∧ w'.cell? ⟨bx, 6, none⟩ = some (.int .i64 a6) ∧ w'.cell? ⟨bx, 7, none⟩ = some (.int .i64 a7) ∧ w'.cell? ⟨bx, 8, none⟩ = some (.int .i64 a8) ∧ w'.cell? ⟨bx, 9, none⟩ = some (.int .i64 a9) ∧ w'.cell? ⟨bx, 10, none⟩ = some (.int .i64 a10) ∧ w'.cell? ⟨bx, 11, none⟩ = some (.int .i64 a11) ∧ w'.cell? ⟨bx, 12, none⟩ = some (.int .i64 a12) ∧ w'.cell? ⟨bp, 1, none⟩ = some (.int .i64 n1)) ∧ w'.heap[bx]? = some (.cells #[.slice (some ad0) P.length c0, .slice A1 L.length c1, .int .i64 a2, .int .i64 a3, .int .i64 a4, .int .i64 a5, .int .i64 a6, .int .i64 a7, .int .i64 a8, .int .i64 a9, .int .i64 a10, .int .i64 a11, .int .i64 a12] 25) ∧ w'.heap[bp]? = some (.cells #[.int .i64 n0, .int .i64 n1] 37) ∧ w'.heap[s_.1]? = some (.cells #[.int .i64 0, .int .i64 0, .int .i64 0, .int .i64 0] 93) ∧ w.heap.size ≤ s_.1 ∧ Below w.heap.size w w') ?_ ?_
   rotate_left
   ·intro hCont
    refine two_ (i := 6) (j := 10) (Ni := some 28) (Nj := some 10) #[true, true, true, true, true, true, true, false, false, false, false, false, false] #[true, true, true, true, true, true, false, false, false, false, true, false, false] rfl rfl rfl rfl (by kernel_rfl) (by decide) (by decide) (fun K hK => ?_) (fun K hK => ?_)
    ·skip
     refine goes_ Tryd.func48 (by kernel_rfl) rfl #[.agg #[.slice (some ad0) P.length c0, .slice A1 L.length c1, .int .i64 a2, .int .i64 a3, .int .i64 a4, .int .i64 a5, .int .i64 a6, .int .i64 a7, .int .i64 a8, .int .i64 a9, .int .i64 a10, .int .i64 a11, .int .i64 a12], .int .i64 i, .int .i64 part, .int .i64 n1] (by rfl) rfl rfl lm ?_
     with_reducible refine (port_any (some ad0) c0 P A1 c1 L a2 a3 a4 a5 a6 a7 a8 a9 a10 a11 a12 i part n1 (wd) (Kd.C_below HR0.out HBd.out) HC0.out (Kd.C_below HR1.out HBd.out) HC1.out HL.out.1 HL.out.2.1 HL.out.2.2 t1 HT1.out).mono ?_
     rintro e w3 ⟨⟨v0, v1, v2, v3, rfl⟩, hb⟩
     have HB3 := am (below_step HBd.out hb)
     have HO3 := am ((hb.block bx (blk_lt HOd.out)).trans HOd.out)
     have HP3 := am ((hb.block bp (blk_lt HPd.out)).trans HPd.out)
     clear hb
     refine ⟨_, rfl, ?_⟩
     refine hK.out _ _ ⟨(blk_cell HO3.out 0).trans rfl, (blk_cell HO3.out 1).trans rfl, (blk_cell HO3.out 2).trans rfl, (blk_cell HO3.out 3).trans rfl, (blk_cell HO3.out 4).trans rfl, (blk_cell HO3.out 5).trans rfl, (blk_cell HO3.out 6).trans rfl, (blk_cell HO3.out 7).trans rfl, (blk_cell HO3.out 8).trans rfl, (blk_cell HO3.out 9).trans rfl, (blk_cell HO3.out 10).trans rfl, (blk_cell HO3.out 11).trans rfl, (blk_cell HO3.out 12).trans rfl, (blk_cell HP3.out 1).trans rfl⟩ (fun hHeld => ?_)
     clear hK K
     refine norm_ (a' := ?_) ?_ ?_
     rotate_left
     ·show Act.put _ (some 28) _ = _
      simp only [Act.put, sAa, sBb, sCc, i64_w, i32_w]
      rfl
     refine pu 7 21 ?_
     refine pu 8 29 ?_
     refine pu 9 30 ?_
     refine on 10 10 (fun K hK => ?_)
     refine value_ (w1 := ?_) (v := ?_) (by rfl) rfl ?_ ?_
     rotate_left 2
     ·go_simp
      constructor
      ·rfl
      ·rfl
     have HO4 := am (((below_alloc (Below.refl w3.heap.size w3) (Obj.cells #[.int .i64 0, .int .i64 0, .int .i64 0, .int .i64 0] 93)).block bx (blk_lt HO3.out)).trans HO3.out)
     have HP4 := am (((below_alloc (Below.refl w3.heap.size w3) (Obj.cells #[.int .i64 0, .int .i64 0, .int .i64 0, .int .i64 0] 93)).block bp (blk_lt HP3.out)).trans HP3.out)
     refine hK.out _ _ ⟨(blk_cell HO4.out 0).trans rfl, (blk_cell HO4.out 1).trans rfl, (blk_cell HO4.out 2).trans rfl, (blk_cell HO4.out 3).trans rfl, (blk_cell HO4.out 4).trans rfl, (blk_cell HO4.out 5).trans rfl, (blk_cell HO4.out 6).trans rfl, (blk_cell HO4.out 7).trans rfl, (blk_cell HO4.out 8).trans rfl, (blk_cell HO4.out 9).trans rfl, (blk_cell HO4.out 10).trans rfl, (blk_cell HO4.out 11).trans rfl, (blk_cell HO4.out 12).trans rfl, (blk_cell HP4.out 1).trans rfl⟩ (fun hHeld => ?_)
     clear hK K
     refine norm_ (a' := ?_) ?_ ?_
     rotate_left
     ·show Act.put _ (some 10) _ = _
      simp only [Act.put, sAa, sBb, sCc, i64_w, i32_w]
      rfl
     exact norm_ (by simp only [putAll, Act.put, sAa, sBb, sCc]) (hCont (w3.heap.size, v0, v1, v2, v3) _ ⟨⟨(blk_cell HO4.out 0).trans rfl, (blk_cell HO4.out 1).trans rfl, (blk_cell HO4.out 2).trans rfl, (blk_cell HO4.out 3).trans rfl, (blk_cell HO4.out 4).trans rfl, (blk_cell HO4.out 5).trans rfl, (blk_cell HO4.out 6).trans rfl, (blk_cell HO4.out 7).trans rfl, (blk_cell HO4.out 8).trans rfl, (blk_cell HO4.out 9).trans rfl, (blk_cell HO4.out 10).trans rfl, (blk_cell HO4.out 11).trans rfl, (blk_cell HO4.out 12).trans rfl, (blk_cell HP4.out 1).trans rfl⟩, HO4.out, HP4.out, heap_alloc_new w3 (.cells #[.int .i64 0, .int .i64 0, .int .i64 0, .int .i64 0] 93), HB3.out.size, below_alloc HB3.out _⟩)
    ·skip
     refine value_ (w1 := ?_) (v := ?_) (by rfl) rfl ?_ ?_
     rotate_left 2
     ·go_simp
      constructor
      ·rfl
      ·rfl
     have HO4 := am (((below_alloc (Below.refl wd.heap.size wd) (Obj.cells #[.int .i64 0, .int .i64 0, .int .i64 0, .int .i64 0] 93)).block bx (blk_lt HOd.out)).trans HOd.out)
     have HP4 := am (((below_alloc (Below.refl wd.heap.size wd) (Obj.cells #[.int .i64 0, .int .i64 0, .int .i64 0, .int .i64 0] 93)).block bp (blk_lt HPd.out)).trans HPd.out)
     refine hK.out _ _ ⟨(blk_cell HO4.out 0).trans rfl, (blk_cell HO4.out 1).trans rfl, (blk_cell HO4.out 2).trans rfl, (blk_cell HO4.out 3).trans rfl, (blk_cell HO4.out 4).trans rfl, (blk_cell HO4.out 5).trans rfl, (blk_cell HO4.out 6).trans rfl, (blk_cell HO4.out 7).trans rfl, (blk_cell HO4.out 8).trans rfl, (blk_cell HO4.out 9).trans rfl, (blk_cell HO4.out 10).trans rfl, (blk_cell HO4.out 11).trans rfl, (blk_cell HO4.out 12).trans rfl, (blk_cell HP4.out 1).trans rfl⟩ (fun hHeld => ?_)
     clear hK K
     refine norm_ (a' := ?_) ?_ ?_
     rotate_left
     ·show Act.put _ (some 10) _ = _
      simp only [Act.put, sAa, sBb, sCc, i64_w, i32_w]
      rfl
     refine on 6 28 (fun K hK => ?_)
     refine goes_ Tryd.func48 (by kernel_rfl) rfl #[.agg #[.slice (some ad0) P.length c0, .slice A1 L.length c1, .int .i64 a2, .int .i64 a3, .int .i64 a4, .int .i64 a5, .int .i64 a6, .int .i64 a7, .int .i64 a8, .int .i64 a9, .int .i64 a10, .int .i64 a11, .int .i64 a12], .int .i64 i, .int .i64 part, .int .i64 n1] (by rfl) rfl rfl lm ?_
     with_reducible refine (port_any (some ad0) c0 P A1 c1 L a2 a3 a4 a5 a6 a7 a8 a9 a10 a11 a12 i part n1 (wd.alloc (.cells #[.int .i64 0, .int .i64 0, .int .i64 0, .int .i64 0] 93)) (Kd.C_below HR0.out (below_alloc HBd.out (Obj.cells #[.int .i64 0, .int .i64 0, .int .i64 0, .int .i64 0] 93))) HC0.out (Kd.C_below HR1.out (below_alloc HBd.out (Obj.cells #[.int .i64 0, .int .i64 0, .int .i64 0, .int .i64 0] 93))) HC1.out HL.out.1 HL.out.2.1 HL.out.2.2 t1 HT1.out).mono ?_
     rintro e w3 ⟨⟨v0, v1, v2, v3, rfl⟩, hb⟩
     have HB3 := am (below_step (below_alloc HBd.out (Obj.cells #[.int .i64 0, .int .i64 0, .int .i64 0, .int .i64 0] 93)) hb)
     have HO3 := am ((hb.block bx (blk_lt (((below_alloc (Below.refl wd.heap.size wd) (Obj.cells #[.int .i64 0, .int .i64 0, .int .i64 0, .int .i64 0] 93)).block bx (blk_lt HOd.out)).trans HOd.out))).trans (((below_alloc (Below.refl wd.heap.size wd) (Obj.cells #[.int .i64 0, .int .i64 0, .int .i64 0, .int .i64 0] 93)).block bx (blk_lt HOd.out)).trans HOd.out))
     have HP3 := am ((hb.block bp (blk_lt (((below_alloc (Below.refl wd.heap.size wd) (Obj.cells #[.int .i64 0, .int .i64 0, .int .i64 0, .int .i64 0] 93)).block bp (blk_lt HPd.out)).trans HPd.out))).trans (((below_alloc (Below.refl wd.heap.size wd) (Obj.cells #[.int .i64 0, .int .i64 0, .int .i64 0, .int .i64 0] 93)).block bp (blk_lt HPd.out)).trans HPd.out))
     have HZ3 := am ((hb.block wd.heap.size (blk_lt (heap_alloc_new wd (.cells #[.int .i64 0, .int .i64 0, .int .i64 0, .int .i64 0] 93)))).trans (heap_alloc_new wd (.cells #[.int .i64 0, .int .i64 0, .int .i64 0, .int .i64 0] 93)))
     clear hb
     refine ⟨_, rfl, ?_⟩
     refine hK.out _ _ ⟨(blk_cell HO3.out 0).trans rfl, (blk_cell HO3.out 1).trans rfl, (blk_cell HO3.out 2).trans rfl, (blk_cell HO3.out 3).trans rfl, (blk_cell HO3.out 4).trans rfl, (blk_cell HO3.out 5).trans rfl, (blk_cell HO3.out 6).trans rfl, (blk_cell HO3.out 7).trans rfl, (blk_cell HO3.out 8).trans rfl, (blk_cell HO3.out 9).trans rfl, (blk_cell HO3.out 10).trans rfl, (blk_cell HO3.out 11).trans rfl, (blk_cell HO3.out 12).trans rfl, (blk_cell HP3.out 1).trans rfl⟩ (fun hHeld => ?_)
     clear hK K
     refine norm_ (a' := ?_) ?_ ?_
     rotate_left
     ·show Act.put _ (some 28) _ = _
      simp only [Act.put, sAa, sBb, sCc, i64_w, i32_w]
      rfl
     refine pu 7 21 ?_
     refine pu 8 29 ?_
     refine pu 9 30 ?_
     exact norm_ (by simp only [putAll, Act.put, sAa, sBb, sCc]) (hCont (wd.heap.size, v0, v1, v2, v3) _ ⟨⟨(blk_cell HO3.out 0).trans rfl, (blk_cell HO3.out 1).trans rfl, (blk_cell HO3.out 2).trans rfl, (blk_cell HO3.out 3).trans rfl, (blk_cell HO3.out 4).trans rfl, (blk_cell HO3.out 5).trans rfl, (blk_cell HO3.out 6).trans rfl, (blk_cell HO3.out 7).trans rfl, (blk_cell HO3.out 8).trans rfl, (blk_cell HO3.out 9).trans rfl, (blk_cell HO3.out 10).trans rfl, (blk_cell HO3.out 11).trans rfl, (blk_cell HO3.out 12).trans rfl, (blk_cell HP3.out 1).trans rfl⟩, HO3.out, HP3.out, HZ3.out, HBd.out.size, HB3.out⟩)
   rintro ⟨s_, v0, v1, v2, v3⟩ w5 ⟨hHeld, hO, hP, hZ, hS, hB⟩
   dsimp only at hHeld hO hP hZ hS hB ⊢
   have HO5 := am hO
   have HP5 := am hP
   have HZ5 := am hZ
   have HS5 := am hS
   have HB5 := am hB
   clear hO hP hZ hS hB
   refine norm_ (a' := ?_) ?_ ?_
   rotate_left
   ·simp only [putAll, Act.put, sAa, sBb, sCc]
    rfl
   refine lan 11 (fun K hK => ?_)
   obtain ⟨z0, z1, z2, z3⟩ := cellsK4 HZ5.out
   obtain ⟨zf0, zf1, zf2, zf3⟩ := frozK4 HZ5.out
   refine skip_ (w1 := ?_) (by rfl) rfl ?_ ?_
   rotate_left
   ·go_simp
    rfl
   refine hK.out _ _ ?_
   clear hK K
   refine pu 12 11 ?_
   refine done_ (by kernel_rfl) ?_
   have HNx : Aside0 (bx ≠ s_ ∧ bp ≠ s_) := ⟨by
    refine ⟨?_, ?_⟩
    ·rintro rfl
     have h1 := HO5.out
     rw [HZ5.out] at h1
     injection h1 with h1
     injection h1 with _ h1 _
     exact absurd h1 (by decide)
    ·rintro rfl
     have h1 := HP5.out
     rw [HZ5.out] at h1
     injection h1 with h1
     injection h1 with _ h1 _
     exact absurd h1 (by decide)⟩
   have HK5 : Aside0 (∀ k, k ≠ s_ → ((((w5.setCell ⟨s_, 0, none⟩ (.int .i64 v0)).setCell ⟨s_, 1, none⟩ (.int .i64 v1)).setCell ⟨s_, 2, none⟩ (.int .i64 v2)).setCell ⟨s_, 3, none⟩ (.int .i64 v3)).heap[k]? = w5.heap[k]?) := ⟨fun k hk => (Below.heap_setCell _ _ _ k hk).trans ((Below.heap_setCell _ _ _ k hk).trans ((Below.heap_setCell _ _ _ k hk).trans (Below.heap_setCell _ _ _ k hk)))⟩
   have HB6 : Aside0 (Below w.heap.size w ((((w5.setCell ⟨s_, 0, none⟩ (.int .i64 v0)).setCell ⟨s_, 1, none⟩ (.int .i64 v1)).setCell ⟨s_, 2, none⟩ (.int .i64 v2)).setCell ⟨s_, 3, none⟩ (.int .i64 v3))) := ⟨(((HB5.out.setCell HS5.out _).setCell HS5.out _).setCell HS5.out _).setCell HS5.out _⟩
   clear z0 z1 z2 z3 zf0 zf1 zf2 zf3
   generalize ((((w5.setCell ⟨s_, 0, none⟩ (.int .i64 v0)).setCell ⟨s_, 1, none⟩ (.int .i64 v1)).setCell ⟨s_, 2, none⟩ (.int .i64 v2)).setCell ⟨s_, 3, none⟩ (.int .i64 v3)) = w6 at *
   have HO6 := am ((HK5.out bx HNx.out.1).trans HO5.out)
   have HP6 := am ((HK5.out bp HNx.out.2).trans HP5.out)
   clear HO5 HP5 HZ5 HS5 HB5 HK5 HNx
   go_upto_region 7 with fail
   have HBe := am (below_drew HB6.out)
   have HOe : Aside0 (w6.drew.heap[bx]? = some (.cells #[.slice (some ad0) P.length c0, .slice A1 L.length c1, .int .i64 a2, .int .i64 a3, .int .i64 a4, .int .i64 a5, .int .i64 a6, .int .i64 a7, .int .i64 a8, .int .i64 a9, .int .i64 a10, .int .i64 a11, .int .i64 a12] 25)) := ⟨HO6.out⟩
   have HPe : Aside0 (w6.drew.heap[bp]? = some (.cells #[.int .i64 n0, .int .i64 n1] 37)) := ⟨HP6.out⟩
   have hq0 := HS.out.1
   have hq1 := HS.out.2
   have hq0_ := eq_true hq0
   have hq1_ := eq_true hq1
   obtain ⟨ad', e0, z0, z1⟩ := at_T43 (Kd.C_below HR0.out HBe.out) part hq0 hq1
   have e0' := Option.some.inj e0
   subst e0'
   clear e0
   refine start_ (n := 14) (S := fun w' => w'.cell? ⟨bp, 1, none⟩ = some (.int .i64 n1) ∧ w'.cell? ⟨bx, 0, none⟩ = some (.slice (some ad0) P.length c0) ∧ w'.cell? (ad0.add (part.toNat * 2)) = some (.int .i64 (rd_T43 P part).f0)) (ds := []) #[false, false, false, false, false, false, false, false, false, false, false, false, false, false] (by kernel_rfl) rfl rfl ⟨(blk_cell HPe.out 1).trans rfl, (blk_cell HOe.out 0).trans rfl, z0⟩ (fun hHeld => ?_)
   generalize w6.drew = we at HBe HOe HPe z0 z1 hHeld ⊢
   refine pu 0 31 ?_
   refine pu 1 32 ?_
   refine pu 3 34 ?_
   refine pu 5 36 ?_
   refine tk3 2 33 ?_
   refine tk3 4 35 ?_
   refine pu 6 37 ?_
   refine pu 7 38 ?_
   refine tk3 8 39 ?_
   refine on 9 40 (fun K hK => ?_)
   refine goes_ Tryd.func26 (by kernel_rfl) rfl #[.int .i64 n1, .int .i64 (rd_T43 P part).f0] (by rfl) rfl rfl lm ?_
   with_reducible refine (is_any n1 (rd_T43 P part).f0 u1 _ HU1.out).mono ?_
   rintro e w7 ⟨rfl, hb⟩
   have HB7 := am (below_step HBe.out hb)
   have HO7 := am ((hb.block bx (blk_lt HOe.out)).trans HOe.out)
   have HP7 := am ((hb.block bp (blk_lt HPe.out)).trans HPe.out)
   have z7 := (hb.cell (block_lt_of_cell z0)).trans z0
   clear hb
   refine ⟨_, rfl, ?_⟩
   refine hK.out _ _ ⟨(blk_cell HP7.out 1).trans rfl, (blk_cell HO7.out 0).trans rfl, z7⟩ (fun hHeld => ?_)
   clear hK K
   refine norm_ (a' := ?_) ?_ ?_
   rotate_left
   ·show Act.put _ (some 40) _ = _
    simp only [Act.put, sAa, sBb, sCc, i64_w, i32_w]
    rfl
   rcases Bool.eq_false_or_eq_true u1 with e_ | e_
   rotate_left
   ·subst e_
    have e_ : r = true := by rw [← HRr.out]; unfold sideC nodeC; rw [HNe.out, HU1.out]; cases (decide (0 ≤ n0) && decide (n0 < (rd_T43 P part).f0)) <;> cases (decide (0 ≤ n1) && decide (n1 < (rd_T43 P part).f0)) <;> cases (L.take i.toNat).any (takes part n0) <;> cases (L.take i.toNat).any (takes part n1) <;> rfl
    subst e_
    refine pu 10 41 ?_
    refine pu 11 42 ?_
    refine pure_ (i := 12) (N := some 43) (v := undef) (a' := ?_) #[true, true, true, true, true, true, true, true, true, true, true, true, true, false] rfl rfl (by kernel_rfl) (fun _ _ _ h => h) (Or.inr ⟨by rfl, rfl⟩) ?_ ?_
    rotate_left
    ·simp only [Act.put, sAa, sBb, sCc, i64_w, i32_w]
     rfl
    refine pu 13 44 ?_
    refine done_ (by kernel_rfl) ?_
    clear z0 z1 z7
    go_wp2_with fail
    go_ret
    exact ⟨rfl, HB7.out⟩
   subst e_
   refine pu 10 41 ?_
   refine pu 11 42 ?_
   refine pu 12 43 ?_
   refine pu 13 44 ?_
   refine done_ (by kernel_rfl) ?_
   clear z0 z1 z7
   rcases Bool.eq_false_or_eq_true t1 with e_ | e_
   ·subst e_
    have e_ : r = true := by rw [← HRr.out]; unfold sideC nodeC; rw [HNe.out, HT1.out]; cases (decide (0 ≤ n0) && decide (n0 < (rd_T43 P part).f0)) <;> cases (decide (0 ≤ n1) && decide (n1 < (rd_T43 P part).f0)) <;> cases (L.take i.toNat).any (takes part n0) <;> cases (L.take i.toNat).any (takes part n1) <;> rfl
    subst e_
    go_wp2_with fail
    go_ret
    exact ⟨rfl, HB7.out⟩
   subst e_
   have HM : Aside0 (nodeC P (L.take i.toNat) part n1 = true) := ⟨by unfold nodeC; rw [HU1.out, HT1.out]; rfl⟩
   go_wp2_with fail
   go_roundg k1
   case measure => have := HK.out; omega
   case rel => exact ⟨2, rfl, ⟨by have := HK.out; omega⟩, HB7, HO7, HP7, ⟨fun _ => HD.out.1 (by omega), fun h => HM.out⟩⟩
  ·subst e
   have e_ : r = false := by rw [← HRr.out]; unfold sideC; rw [HNe.out, HD.out.1 (by omega), HD.out.2 (by omega)]; rfl
   subst e_
   go_wp2_with fail
   go_ret
   exact ⟨rfl, HB.out⟩
end Go.Proofs.YtbefbhghmommhaaDoor.MWo
