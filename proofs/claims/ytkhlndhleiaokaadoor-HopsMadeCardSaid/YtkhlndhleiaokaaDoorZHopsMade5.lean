/- Texts that HopsMade leans on, laid together by a program (wip/d/merge.py): Hl, Hs, MHox45, MHox46, MHox47. -/
import Derived.Test.YtkhlndhleiaokaaDoorZHopsMade4
import Derived.BigQuiet
import Derived.Test.YtkhlndhleiaokaaDoorZHopsMade1
set_option linter.unusedVariables false
set_option linter.unusedSimpArgs false
namespace Go.Proofs.YtkhlndhleiaokaaDoor.MHo
open Go.RowKit Go.Proofs.YtkhlndhleiaokaaDoorW.PrintWords Go.Proofs.YtkhlndhleiaokaaDoorW.PrintLast Go.Proofs.YtkhlndhleiaokaaDoorW.PrintMore
theorem is_yes (a0 a1 : Int) (w : World) (h0 : 0 ≤ a0) (h1 : a0 < a1) : Calls Tryd.prog 50 #[.int .i64 a0, .int .i64 a1] w fun e w' => e = .returned (.bool true) ∧ Below w.heap.size w w' :=
 (drumlineref5_is.calls a0 a1 true w (by unfold drumlineref5_is.f; rw [if_pos h0, decide_eq_true h1])).mono fun e w' h => ⟨h.1, h.2.below⟩
set_option maxHeartbeats 8000000 in
set_option maxRecDepth 10000 in
theorem ends_no (A0 : Option Addr) (c0 : Nat) (P : List S60) (A1 : Option Addr) (c1 : Nat) (L : List S37) (a2 a3 a4 a5 a6 a7 a8 a9 a10 a11 a12 : Int) (i part n0 n1 : Int) (w : World) (hr0 : Kd.C k60 w A0 P.length P) (hc0 : P.length ≤ c0) (hr1 : Kd.C k37 w A1 L.length L) (hc1 : L.length ≤ c1) (hL : L.length ≤ 1000) (hi0 : 0 ≤ i) (hi1 : i ≤ L.length) (hs : SideOk P (L.take i.toNat) part ⟨n0, n1⟩) :
  Calls Tryd.prog 72 #[.agg #[.slice A0 P.length c0, .slice A1 L.length c1, .int .i64 a2, .int .i64 a3, .int .i64 a4, .int .i64 a5, .int .i64 a6, .int .i64 a7, .int .i64 a8, .int .i64 a9, .int .i64 a10, .int .i64 a11, .int .i64 a12], .int .i64 i, .int .i64 part, .agg #[.int .i64 n0, .int .i64 n1]] w fun e w' => e = .returned (.bool false) ∧ Below w.heap.size w w' := by
 have HR0 := Aside0.mk hr0
 have HR1 := Aside0.mk hr1
 have HC0 := Aside0.mk hc0
 have HC1 := Aside0.mk hc1
 have HS := Aside0.mk hs
 have HL := Aside0.mk (show L.length ≤ 1000 ∧ 0 ≤ i ∧ i ≤ (L.length : Int) from ⟨hL, hi0, hi1⟩)
 obtain ⟨ad0, e0, _⟩ := at_T60 hr0 part hs.part0 hs.part1
 subst e0
 have hne : (n0 == n1) = false := hs.ne
 clear hr0 hr1 hc0 hc1 hs hL hi0 hi1
 go_enter Tryd.func72, Tryd.ntmps72
 go_upto_region 1 with fail
 have HO : Aside0 (((w.alloc (.cells #[.slice (some ad0) P.length c0, .slice A1 L.length c1, .int .i64 a2, .int .i64 a3, .int .i64 a4, .int .i64 a5, .int .i64 a6, .int .i64 a7, .int .i64 a8, .int .i64 a9, .int .i64 a10, .int .i64 a11, .int .i64 a12] 25)).alloc (.cells #[.int .i64 n0, .int .i64 n1] 35)).heap[w.heap.size]? = some (.cells #[.slice (some ad0) P.length c0, .slice A1 L.length c1, .int .i64 a2, .int .i64 a3, .int .i64 a4, .int .i64 a5, .int .i64 a6, .int .i64 a7, .int .i64 a8, .int .i64 a9, .int .i64 a10, .int .i64 a11, .int .i64 a12] 25)) := ⟨by
  have h0 : (w.alloc (.cells #[.slice (some ad0) P.length c0, .slice A1 L.length c1, .int .i64 a2, .int .i64 a3, .int .i64 a4, .int .i64 a5, .int .i64 a6, .int .i64 a7, .int .i64 a8, .int .i64 a9, .int .i64 a10, .int .i64 a11, .int .i64 a12] 25)).heap[w.heap.size]? = some (.cells #[.slice (some ad0) P.length c0, .slice A1 L.length c1, .int .i64 a2, .int .i64 a3, .int .i64 a4, .int .i64 a5, .int .i64 a6, .int .i64 a7, .int .i64 a8, .int .i64 a9, .int .i64 a10, .int .i64 a11, .int .i64 a12] 25) := heap_alloc_new _ _
  exact ((below_alloc (Below.refl _ (w.alloc (.cells #[.slice (some ad0) P.length c0, .slice A1 L.length c1, .int .i64 a2, .int .i64 a3, .int .i64 a4, .int .i64 a5, .int .i64 a6, .int .i64 a7, .int .i64 a8, .int .i64 a9, .int .i64 a10, .int .i64 a11, .int .i64 a12] 25))) _).block _ (blk_lt h0)).trans h0⟩
 have HP : Aside0 (((w.alloc (.cells #[.slice (some ad0) P.length c0, .slice A1 L.length c1, .int .i64 a2, .int .i64 a3, .int .i64 a4, .int .i64 a5, .int .i64 a6, .int .i64 a7, .int .i64 a8, .int .i64 a9, .int .i64 a10, .int .i64 a11, .int .i64 a12] 25)).alloc (.cells #[.int .i64 n0, .int .i64 n1] 35)).heap[w.heap.size + 1]? = some (.cells #[.int .i64 n0, .int .i64 n1] 35)) := ⟨by have := heap_alloc_new (w.alloc (.cells #[.slice (some ad0) P.length c0, .slice A1 L.length c1, .int .i64 a2, .int .i64 a3, .int .i64 a4, .int .i64 a5, .int .i64 a6, .int .i64 a7, .int .i64 a8, .int .i64 a9, .int .i64 a10, .int .i64 a11, .int .i64 a12] 25)) (.cells #[.int .i64 n0, .int .i64 n1] 35); simpa using this⟩
 have HB := Aside0.mk (below_alloc (below_alloc (Below.refl w.heap.size w) (Obj.cells #[.slice (some ad0) P.length c0, .slice A1 L.length c1, .int .i64 a2, .int .i64 a3, .int .i64 a4, .int .i64 a5, .int .i64 a6, .int .i64 a7, .int .i64 a8, .int .i64 a9, .int .i64 a10, .int .i64 a11, .int .i64 a12] 25)) (Obj.cells #[.int .i64 n0, .int .i64 n1] 35))
 generalize (w.alloc (.cells #[.slice (some ad0) P.length c0, .slice A1 L.length c1, .int .i64 a2, .int .i64 a3, .int .i64 a4, .int .i64 a5, .int .i64 a6, .int .i64 a7, .int .i64 a8, .int .i64 a9, .int .i64 a10, .int .i64 a11, .int .i64 a12] 25)).alloc (.cells #[.int .i64 n0, .int .i64 n1] 35) = wa at *
 obtain ⟨bp, hbp⟩ : ∃ bp, bp = w.heap.size + 1 := ⟨_, rfl⟩
 obtain ⟨bx, hbx⟩ : ∃ bx, bx = w.heap.size := ⟨_, rfl⟩
 rw [← hbp, ← hbx]
 rw [← hbx] at HO
 rw [← hbp] at HP
 clear hbx hbp
 have c0 : wa.cell? ⟨bp, 0, none⟩ = some (.int .i64 n0) := (blk_cell HP.out 0).trans rfl
 have c1 : wa.cell? ⟨bp, 1, none⟩ = some (.int .i64 n1) := (blk_cell HP.out 1).trans rfl
 go_wp2_with fail
 clear c0 c1 hne
 go_loopg [9] 3 (fun kq v9 w' => ∃ k : Nat, v9 = .int .i64 k ∧ Aside0 (kq + k = 3 ∧ k ≤ 2) ∧ Aside0 (Below w.heap.size w w') ∧ Aside0 (w'.heap[bx]? = some (.cells #[.slice (some ad0) P.length c0, .slice A1 L.length c1, .int .i64 a2, .int .i64 a3, .int .i64 a4, .int .i64 a5, .int .i64 a6, .int .i64 a7, .int .i64 a8, .int .i64 a9, .int .i64 a10, .int .i64 a11, .int .i64 a12] 25)) ∧ Aside0 (w'.heap[bp]? = some (.cells #[.int .i64 n0, .int .i64 n1] 35)))
 case atStart => exact ⟨0, rfl, ⟨by omega⟩, HB, HO, HP⟩
 case round =>
  clear HO HB HP
  obtain ⟨k, rfl, HK, HB, HO, HP⟩ := hrel
  cases gk with
  | zero => exact absurd HK.out (by omega)
  | succ k1 =>
  rcases (show k = 0 ∨ k = 1 ∨ k = 2 from by have := HK.out; omega) with e | e | e
  ·subst e
   go_upto_region 6 with fail
   have HBd := Aside0.mk (below_drew HB.out)
   have HOd : Aside0 (wr.drew.heap[bx]? = some (.cells #[.slice (some ad0) P.length c0, .slice A1 L.length c1, .int .i64 a2, .int .i64 a3, .int .i64 a4, .int .i64 a5, .int .i64 a6, .int .i64 a7, .int .i64 a8, .int .i64 a9, .int .i64 a10, .int .i64 a11, .int .i64 a12] 25)) := ⟨HO.out⟩
   have HPd : Aside0 (wr.drew.heap[bp]? = some (.cells #[.int .i64 n0, .int .i64 n1] 35)) := ⟨HP.out⟩
   refine start_ (n := 13) (S := fun w' => w'.cell? ⟨bx, 0, none⟩ = some (.slice (some ad0) P.length c0) ∧ w'.cell? ⟨bx, 1, none⟩ = some (.slice A1 L.length c1) ∧ w'.cell? ⟨bx, 2, none⟩ = some (.int .i64 a2) ∧ w'.cell? ⟨bx, 3, none⟩ = some (.int .i64 a3) ∧ w'.cell? ⟨bx, 4, none⟩ = some (.int .i64 a4) ∧ w'.cell? ⟨bx, 5, none⟩ = some (.int .i64 a5) ∧ w'.cell? ⟨bx, 6, none⟩ = some (.int .i64 a6) ∧ w'.cell? ⟨bx, 7, none⟩ = some (.int .i64 a7) ∧ w'.cell? ⟨bx, 8, none⟩ = some (.int .i64 a8) ∧ w'.cell? ⟨bx, 9, none⟩ = some (.int .i64 a9) ∧ w'.cell? ⟨bx, 10, none⟩ = some (.int .i64 a10) ∧ w'.cell? ⟨bx, 11, none⟩ = some (.int .i64 a11) ∧ w'.cell? ⟨bx, 12, none⟩ = some (.int .i64 a12) ∧ w'.cell? ⟨bp, 0, none⟩ = some (.int .i64 n0)) (ds := [11]) #[false, false, false, false, false, false, false, false, false, false, false, false, false] (by kernel_rfl) rfl rfl ⟨(blk_cell HOd.out 0).trans rfl, (blk_cell HOd.out 1).trans rfl, (blk_cell HOd.out 2).trans rfl, (blk_cell HOd.out 3).trans rfl, (blk_cell HOd.out 4).trans rfl, (blk_cell HOd.out 5).trans rfl, (blk_cell HOd.out 6).trans rfl, (blk_cell HOd.out 7).trans rfl, (blk_cell HOd.out 8).trans rfl, (blk_cell HOd.out 9).trans rfl, (blk_cell HOd.out 10).trans rfl, (blk_cell HOd.out 11).trans rfl, (blk_cell HOd.out 12).trans rfl, (blk_cell HPd.out 0).trans rfl⟩ (fun hHeld => ?_)
   generalize wr.drew = wd at HBd HOd HPd hHeld ⊢
   refine pure_ (i := 1) (N := some 23) (v := ?_) (a' := ?_) #[false, true, false, false, false, false, false, false, false, false, false, false, false] rfl rfl (by kernel_rfl) (fun _ _ _ h => h) (Or.inl ⟨by rfl, ?_⟩) ?_ ?_
   rotate_left
   ·intro w'
    go_simp
    with_reducible rfl
   rotate_left
   ·simp only [Act.put, sAa, sBb, sCc, i64_w, i32_w]
    rfl
   refine pure_ (i := 2) (N := some 24) (v := ?_) (a' := ?_) #[false, true, true, false, false, false, false, false, false, false, false, false, false] rfl rfl (by kernel_rfl) (fun _ _ _ h => h) (Or.inl ⟨by rfl, ?_⟩) ?_ ?_
   rotate_left
   ·intro w'
    go_simp
    with_reducible rfl
   rotate_left
   ·simp only [Act.put, sAa, sBb, sCc, i64_w, i32_w]
    rfl
   refine pure_ (i := 3) (N := some 25) (v := ?_) (a' := ?_) #[false, true, true, true, false, false, false, false, false, false, false, false, false] rfl rfl (by kernel_rfl) (fun _ _ _ h => h) (Or.inl ⟨by rfl, ?_⟩) ?_ ?_
   rotate_left
   ·intro w'
    go_simp
    with_reducible rfl
   rotate_left
   ·simp only [Act.put, sAa, sBb, sCc, i64_w, i32_w]
    rfl
   refine pure_ (i := 4) (N := some 26) (v := ?_) (a' := ?_) #[false, true, true, true, true, false, false, false, false, false, false, false, false] rfl rfl (by kernel_rfl) (fun _ _ _ h => h) (Or.inl ⟨by rfl, ?_⟩) ?_ ?_
   rotate_left
   ·intro w'
    go_simp
    with_reducible rfl
   rotate_left
   ·simp only [Act.put, sAa, sBb, sCc, i64_w, i32_w]
    rfl
   refine take_ (i := 0) (N := some 22) (v := ?_) (a' := ?_) #[true, true, true, true, true, false, false, false, false, false, false, false, false] rfl rfl (by kernel_rfl) (fun _ _ _ h => h) (Or.inl ⟨by rfl, ?_⟩) hHeld ?_ ?_
   rotate_left
   ·rintro w' ⟨s0, s1, s2, s3, s4, s5, s6, s7, s8, s9, s10, s11, s12, s13⟩
    go_simp
    with_reducible rfl
   rotate_left
   ·simp only [Act.put, sAa, sBb, sCc, i64_w, i32_w]
    rfl
   refine take_ (i := 5) (N := some 27) (v := ?_) (a' := ?_) #[true, true, true, true, true, true, false, false, false, false, false, false, false] rfl rfl (by kernel_rfl) (fun _ _ _ h => h) (Or.inl ⟨by rfl, ?_⟩) hHeld ?_ ?_
   rotate_left
   ·rintro w' ⟨s0, s1, s2, s3, s4, s5, s6, s7, s8, s9, s10, s11, s12, s13⟩
    go_simp
    with_reducible rfl
   rotate_left
   ·simp only [Act.put, sAa, sBb, sCc, i64_w, i32_w]
    rfl
   refine join_ (σ := Nat) 2 #[true, true, true, true, true, true, true, true, true, true, true, false, false] (fun s_ => [(28, .tuple #[.agg #[.int .i64 0, .int .i64 0, .int .i64 0, .int .i64 0], .bool false]), (10, .pointer (some ⟨s_, 0, none⟩)), (21, .tuple #[.agg #[.int .i64 0, .int .i64 0, .int .i64 0, .int .i64 0], .bool false]), (29, .agg #[.int .i64 0, .int .i64 0, .int .i64 0, .int .i64 0]), (30, .bool false)]) (fun s_ w' => (w'.cell? ⟨bx, 0, none⟩ = some (.slice (some ad0) P.length c0) ∧ w'.cell? ⟨bx, 1, none⟩ = some (.slice A1 L.length c1) ∧ w'.cell? ⟨bx, 2, none⟩ = some (.int .i64 a2) ∧ w'.cell? ⟨bx, 3, none⟩ = some (.int .i64 a3) ∧ w'.cell? ⟨bx, 4, none⟩ = some (.int .i64 a4) ∧ w'.cell? ⟨bx, 5, none⟩ = some (.int .i64 a5) ∧ w'.cell? ⟨bx, 6, none⟩ = some (.int .i64 a6) ∧ w'.cell? ⟨bx, 7, none⟩ = some (.int .i64 a7) ∧ w'.cell? ⟨bx, 8, none⟩ = some (.int .i64 a8) ∧ w'.cell? ⟨bx, 9, none⟩ = some (.int .i64 a9) ∧ w'.cell? ⟨bx, 10, none⟩ = some (.int .i64 a10) ∧ w'.cell? ⟨bx, 11, none⟩ = some (.int .i64 a11) ∧ w'.cell? ⟨bx, 12, none⟩ = some (.int .i64 a12) ∧ w'.cell? ⟨bp, 0, none⟩ = some (.int .i64 n0)) ∧ w'.heap[bx]? = some (.cells #[.slice (some ad0) P.length c0, .slice A1 L.length c1, .int .i64 a2, .int .i64 a3, .int .i64 a4, .int .i64 a5, .int .i64 a6, .int .i64 a7, .int .i64 a8, .int .i64 a9, .int .i64 a10, .int .i64 a11, .int .i64 a12] 25) ∧ w'.heap[bp]? = some (.cells #[.int .i64 n0, .int .i64 n1] 35) ∧ w'.heap[s_]? = some (.cells #[.int .i64 0, .int .i64 0, .int .i64 0, .int .i64 0] 124) ∧ w.heap.size ≤ s_ ∧ Below w.heap.size w w') ?_ ?_
   rotate_left
   ·intro hCont
    refine two_ (i := 6) (j := 10) (Ni := some 28) (Nj := some 10) #[true, true, true, true, true, true, true, false, false, false, false, false, false] #[true, true, true, true, true, true, false, false, false, false, true, false, false] rfl rfl rfl rfl (by kernel_rfl) (by decide) (by decide) (fun K hK => ?_) (fun K hK => ?_)
    ·skip
     refine goes_ Tryd.func85 (by kernel_rfl) rfl #[.agg #[.slice (some ad0) P.length c0, .slice A1 L.length c1, .int .i64 a2, .int .i64 a3, .int .i64 a4, .int .i64 a5, .int .i64 a6, .int .i64 a7, .int .i64 a8, .int .i64 a9, .int .i64 a10, .int .i64 a11, .int .i64 a12], .int .i64 i, .int .i64 part, .int .i64 n0] (by rfl) rfl rfl (by simp only [List.map_toArray, List.map_cons, List.map_nil]; rfl) ?_
     with_reducible refine (port_no (some ad0) c0 P A1 c1 L a2 a3 a4 a5 a6 a7 a8 a9 a10 a11 a12 i part n0 (wd) (Kd.C_below HR0.out HBd.out) HC0.out (Kd.C_below HR1.out HBd.out) HC1.out HL.out.1 HL.out.2.1 HL.out.2.2 HS.out.t0).mono ?_
     rintro e w3 ⟨rfl, hb⟩
     have HB3 := Aside0.mk (below_step HBd.out hb)
     have HO3 := Aside0.mk ((hb.block bx (blk_lt HOd.out)).trans HOd.out)
     have HP3 := Aside0.mk ((hb.block bp (blk_lt HPd.out)).trans HPd.out)
     clear hb
     refine ⟨_, rfl, ?_⟩
     refine hK.out _ _ ⟨(blk_cell HO3.out 0).trans rfl, (blk_cell HO3.out 1).trans rfl, (blk_cell HO3.out 2).trans rfl, (blk_cell HO3.out 3).trans rfl, (blk_cell HO3.out 4).trans rfl, (blk_cell HO3.out 5).trans rfl, (blk_cell HO3.out 6).trans rfl, (blk_cell HO3.out 7).trans rfl, (blk_cell HO3.out 8).trans rfl, (blk_cell HO3.out 9).trans rfl, (blk_cell HO3.out 10).trans rfl, (blk_cell HO3.out 11).trans rfl, (blk_cell HO3.out 12).trans rfl, (blk_cell HP3.out 0).trans rfl⟩ (fun hHeld => ?_)
     clear hK K
     refine norm_ (a' := ?_) ?_ ?_
     rotate_left
     ·show Act.put _ (some 28) _ = _
      simp only [Act.put, sAa, sBb, sCc, i64_w, i32_w]
      rfl
     refine pure_ (i := 7) (N := some 21) (v := ?_) (a' := ?_) #[true, true, true, true, true, true, true, true, false, false, false, false, false] rfl rfl (by kernel_rfl) (fun _ _ _ h => h) (Or.inl ⟨by rfl, ?_⟩) ?_ ?_
     rotate_left
     ·intro w'
      go_simp
      with_reducible rfl
     rotate_left
     ·simp only [Act.put, sAa, sBb, sCc, i64_w, i32_w]
      rfl
     refine pure_ (i := 8) (N := some 29) (v := ?_) (a' := ?_) #[true, true, true, true, true, true, true, true, true, false, false, false, false] rfl rfl (by kernel_rfl) (fun _ _ _ h => h) (Or.inl ⟨by rfl, ?_⟩) ?_ ?_
     rotate_left
     ·intro w'
      go_simp
      with_reducible rfl
     rotate_left
     ·simp only [Act.put, sAa, sBb, sCc, i64_w, i32_w]
      rfl
     refine pure_ (i := 9) (N := some 30) (v := ?_) (a' := ?_) #[true, true, true, true, true, true, true, true, true, true, false, false, false] rfl rfl (by kernel_rfl) (fun _ _ _ h => h) (Or.inl ⟨by rfl, ?_⟩) ?_ ?_
     rotate_left
     ·intro w'
      go_simp
      with_reducible rfl
     rotate_left
     ·simp only [Act.put, sAa, sBb, sCc, i64_w, i32_w]
      rfl
     refine one_ (i := 10) (N := some 10) #[true, true, true, true, true, true, true, true, true, true, true, false, false] rfl rfl (by kernel_rfl) (by decide) (fun K hK => ?_)
     refine value_ (w1 := ?_) (v := ?_) (by rfl) rfl ?_ ?_
     rotate_left 2
     ·go_simp
      constructor
      ·rfl
      ·rfl
     have HO4 := Aside0.mk (((below_alloc (Below.refl w3.heap.size w3) (Obj.cells #[.int .i64 0, .int .i64 0, .int .i64 0, .int .i64 0] 124)).block bx (blk_lt HO3.out)).trans HO3.out)
     have HP4 := Aside0.mk (((below_alloc (Below.refl w3.heap.size w3) (Obj.cells #[.int .i64 0, .int .i64 0, .int .i64 0, .int .i64 0] 124)).block bp (blk_lt HP3.out)).trans HP3.out)
     refine hK.out _ _ ⟨(blk_cell HO4.out 0).trans rfl, (blk_cell HO4.out 1).trans rfl, (blk_cell HO4.out 2).trans rfl, (blk_cell HO4.out 3).trans rfl, (blk_cell HO4.out 4).trans rfl, (blk_cell HO4.out 5).trans rfl, (blk_cell HO4.out 6).trans rfl, (blk_cell HO4.out 7).trans rfl, (blk_cell HO4.out 8).trans rfl, (blk_cell HO4.out 9).trans rfl, (blk_cell HO4.out 10).trans rfl, (blk_cell HO4.out 11).trans rfl, (blk_cell HO4.out 12).trans rfl, (blk_cell HP4.out 0).trans rfl⟩ (fun hHeld => ?_)
     clear hK K
     refine norm_ (a' := ?_) ?_ ?_
     rotate_left
     ·show Act.put _ (some 10) _ = _
      simp only [Act.put, sAa, sBb, sCc, i64_w, i32_w]
      rfl
     exact norm_ (by simp only [putAll, Act.put, sAa, sBb, sCc]) (hCont w3.heap.size _ ⟨⟨(blk_cell HO4.out 0).trans rfl, (blk_cell HO4.out 1).trans rfl, (blk_cell HO4.out 2).trans rfl, (blk_cell HO4.out 3).trans rfl, (blk_cell HO4.out 4).trans rfl, (blk_cell HO4.out 5).trans rfl, (blk_cell HO4.out 6).trans rfl, (blk_cell HO4.out 7).trans rfl, (blk_cell HO4.out 8).trans rfl, (blk_cell HO4.out 9).trans rfl, (blk_cell HO4.out 10).trans rfl, (blk_cell HO4.out 11).trans rfl, (blk_cell HO4.out 12).trans rfl, (blk_cell HP4.out 0).trans rfl⟩, HO4.out, HP4.out, heap_alloc_new w3 (.cells #[.int .i64 0, .int .i64 0, .int .i64 0, .int .i64 0] 124), HB3.out.size, below_alloc HB3.out _⟩)
    ·skip
     refine value_ (w1 := ?_) (v := ?_) (by rfl) rfl ?_ ?_
     rotate_left 2
     ·go_simp
      constructor
      ·rfl
      ·rfl
     have HO4 := Aside0.mk (((below_alloc (Below.refl wd.heap.size wd) (Obj.cells #[.int .i64 0, .int .i64 0, .int .i64 0, .int .i64 0] 124)).block bx (blk_lt HOd.out)).trans HOd.out)
     have HP4 := Aside0.mk (((below_alloc (Below.refl wd.heap.size wd) (Obj.cells #[.int .i64 0, .int .i64 0, .int .i64 0, .int .i64 0] 124)).block bp (blk_lt HPd.out)).trans HPd.out)
     refine hK.out _ _ ⟨(blk_cell HO4.out 0).trans rfl, (blk_cell HO4.out 1).trans rfl, (blk_cell HO4.out 2).trans rfl, (blk_cell HO4.out 3).trans rfl, (blk_cell HO4.out 4).trans rfl, (blk_cell HO4.out 5).trans rfl, (blk_cell HO4.out 6).trans rfl, (blk_cell HO4.out 7).trans rfl, (blk_cell HO4.out 8).trans rfl, (blk_cell HO4.out 9).trans rfl, (blk_cell HO4.out 10).trans rfl, (blk_cell HO4.out 11).trans rfl, (blk_cell HO4.out 12).trans rfl, (blk_cell HP4.out 0).trans rfl⟩ (fun hHeld => ?_)
     clear hK K
     refine norm_ (a' := ?_) ?_ ?_
     rotate_left
     ·show Act.put _ (some 10) _ = _
      simp only [Act.put, sAa, sBb, sCc, i64_w, i32_w]
      rfl
     refine one_ (i := 6) (N := some 28) #[true, true, true, true, true, true, true, false, false, false, true, false, false] rfl rfl (by kernel_rfl) (by decide) (fun K hK => ?_)
     refine goes_ Tryd.func85 (by kernel_rfl) rfl #[.agg #[.slice (some ad0) P.length c0, .slice A1 L.length c1, .int .i64 a2, .int .i64 a3, .int .i64 a4, .int .i64 a5, .int .i64 a6, .int .i64 a7, .int .i64 a8, .int .i64 a9, .int .i64 a10, .int .i64 a11, .int .i64 a12], .int .i64 i, .int .i64 part, .int .i64 n0] (by rfl) rfl rfl (by simp only [List.map_toArray, List.map_cons, List.map_nil]; rfl) ?_
     with_reducible refine (port_no (some ad0) c0 P A1 c1 L a2 a3 a4 a5 a6 a7 a8 a9 a10 a11 a12 i part n0 (wd.alloc (.cells #[.int .i64 0, .int .i64 0, .int .i64 0, .int .i64 0] 124)) (Kd.C_below HR0.out (below_alloc HBd.out (Obj.cells #[.int .i64 0, .int .i64 0, .int .i64 0, .int .i64 0] 124))) HC0.out (Kd.C_below HR1.out (below_alloc HBd.out (Obj.cells #[.int .i64 0, .int .i64 0, .int .i64 0, .int .i64 0] 124))) HC1.out HL.out.1 HL.out.2.1 HL.out.2.2 HS.out.t0).mono ?_
     rintro e w3 ⟨rfl, hb⟩
     have HB3 := Aside0.mk (below_step (below_alloc HBd.out (Obj.cells #[.int .i64 0, .int .i64 0, .int .i64 0, .int .i64 0] 124)) hb)
     have HO3 := Aside0.mk ((hb.block bx (blk_lt (((below_alloc (Below.refl wd.heap.size wd) (Obj.cells #[.int .i64 0, .int .i64 0, .int .i64 0, .int .i64 0] 124)).block bx (blk_lt HOd.out)).trans HOd.out))).trans (((below_alloc (Below.refl wd.heap.size wd) (Obj.cells #[.int .i64 0, .int .i64 0, .int .i64 0, .int .i64 0] 124)).block bx (blk_lt HOd.out)).trans HOd.out))
     have HP3 := Aside0.mk ((hb.block bp (blk_lt (((below_alloc (Below.refl wd.heap.size wd) (Obj.cells #[.int .i64 0, .int .i64 0, .int .i64 0, .int .i64 0] 124)).block bp (blk_lt HPd.out)).trans HPd.out))).trans (((below_alloc (Below.refl wd.heap.size wd) (Obj.cells #[.int .i64 0, .int .i64 0, .int .i64 0, .int .i64 0] 124)).block bp (blk_lt HPd.out)).trans HPd.out))
     have HZ3 := Aside0.mk ((hb.block wd.heap.size (blk_lt (heap_alloc_new wd (.cells #[.int .i64 0, .int .i64 0, .int .i64 0, .int .i64 0] 124)))).trans (heap_alloc_new wd (.cells #[.int .i64 0, .int .i64 0, .int .i64 0, .int .i64 0] 124)))
     clear hb
     refine ⟨_, rfl, ?_⟩
     refine hK.out _ _ ⟨(blk_cell HO3.out 0).trans rfl, (blk_cell HO3.out 1).trans rfl, (blk_cell HO3.out 2).trans rfl, (blk_cell HO3.out 3).trans rfl, (blk_cell HO3.out 4).trans rfl, (blk_cell HO3.out 5).trans rfl, (blk_cell HO3.out 6).trans rfl, (blk_cell HO3.out 7).trans rfl, (blk_cell HO3.out 8).trans rfl, (blk_cell HO3.out 9).trans rfl, (blk_cell HO3.out 10).trans rfl, (blk_cell HO3.out 11).trans rfl, (blk_cell HO3.out 12).trans rfl, (blk_cell HP3.out 0).trans rfl⟩ (fun hHeld => ?_)
     clear hK K
     refine norm_ (a' := ?_) ?_ ?_
     rotate_left
     ·show Act.put _ (some 28) _ = _
      simp only [Act.put, sAa, sBb, sCc, i64_w, i32_w]
      rfl
     refine pure_ (i := 7) (N := some 21) (v := ?_) (a' := ?_) #[true, true, true, true, true, true, true, true, false, false, true, false, false] rfl rfl (by kernel_rfl) (fun _ _ _ h => h) (Or.inl ⟨by rfl, ?_⟩) ?_ ?_
     rotate_left
     ·intro w'
      go_simp
      with_reducible rfl
     rotate_left
     ·simp only [Act.put, sAa, sBb, sCc, i64_w, i32_w]
      rfl
     refine pure_ (i := 8) (N := some 29) (v := ?_) (a' := ?_) #[true, true, true, true, true, true, true, true, true, false, true, false, false] rfl rfl (by kernel_rfl) (fun _ _ _ h => h) (Or.inl ⟨by rfl, ?_⟩) ?_ ?_
     rotate_left
     ·intro w'
      go_simp
      with_reducible rfl
     rotate_left
     ·simp only [Act.put, sAa, sBb, sCc, i64_w, i32_w]
      rfl
     refine pure_ (i := 9) (N := some 30) (v := ?_) (a' := ?_) #[true, true, true, true, true, true, true, true, true, true, true, false, false] rfl rfl (by kernel_rfl) (fun _ _ _ h => h) (Or.inl ⟨by rfl, ?_⟩) ?_ ?_
     rotate_left
     ·intro w'
      go_simp
      with_reducible rfl
     rotate_left
     ·simp only [Act.put, sAa, sBb, sCc, i64_w, i32_w]
      rfl
     exact norm_ (by simp only [putAll, Act.put, sAa, sBb, sCc]) (hCont wd.heap.size _ ⟨⟨(blk_cell HO3.out 0).trans rfl, (blk_cell HO3.out 1).trans rfl, (blk_cell HO3.out 2).trans rfl, (blk_cell HO3.out 3).trans rfl, (blk_cell HO3.out 4).trans rfl, (blk_cell HO3.out 5).trans rfl, (blk_cell HO3.out 6).trans rfl, (blk_cell HO3.out 7).trans rfl, (blk_cell HO3.out 8).trans rfl, (blk_cell HO3.out 9).trans rfl, (blk_cell HO3.out 10).trans rfl, (blk_cell HO3.out 11).trans rfl, (blk_cell HO3.out 12).trans rfl, (blk_cell HP3.out 0).trans rfl⟩, HO3.out, HP3.out, HZ3.out, HBd.out.size, HB3.out⟩)
   rintro s_ w5 ⟨hHeld, hO, hP, hZ, hS, hB⟩
   have HO5 := Aside0.mk hO
   have HP5 := Aside0.mk hP
   have HZ5 := Aside0.mk hZ
   have HS5 := Aside0.mk hS
   have HB5 := Aside0.mk hB
   clear hO hP hZ hS hB
   refine norm_ (a' := ?_) ?_ ?_
   rotate_left
   ·simp only [putAll, Act.put, sAa, sBb, sCc]
    rfl
   refine last_ (i := 11) (N := none) #[true, true, true, true, true, true, true, true, true, true, true, true, false] rfl rfl (by kernel_rfl) (by decide) (fun K hK => ?_)
   obtain ⟨z0, z1, z2, z3⟩ := cellsK4 HZ5.out
   have zf0 := blk_frozen HZ5.out 0
   have zf1 := blk_frozen HZ5.out 1
   have zf2 := blk_frozen HZ5.out 2
   have zf3 := blk_frozen HZ5.out 3
   refine skip_ (w1 := ?_) (by rfl) rfl ?_ ?_
   rotate_left
   ·go_simp
    rfl
   refine hK.out _ _ ?_
   clear hK K
   refine pure_ (i := 12) (N := some 11) (v := ?_) (a' := ?_) #[true, true, true, true, true, true, true, true, true, true, true, true, true] rfl rfl (by kernel_rfl) (fun _ _ _ h => h) (Or.inl ⟨by rfl, ?_⟩) ?_ ?_
   rotate_left
   ·intro w'
    go_simp
    with_reducible rfl
   rotate_left
   ·simp only [Act.put, sAa, sBb, sCc, i64_w, i32_w]
    rfl
   refine done_ (by kernel_rfl) ?_
   have HNx : Aside0 (bx ≠ s_ ∧ bp ≠ s_) := ⟨by
    refine ⟨?_, ?_⟩
    ·rintro rfl
     have h1 := HO5.out
     rw [HZ5.out] at h1
     injection h1 with h1
     injection h1 with _ h1 _
     exact absurd h1 (by decide)
    ·rintro rfl
     have h1 := HP5.out
     rw [HZ5.out] at h1
     injection h1 with h1
     injection h1 with _ h1 _
     exact absurd h1 (by decide)⟩
   have HK5 : Aside0 (∀ k, k ≠ s_ → ((((w5.setCell ⟨s_, 0, none⟩ (.int .i64 0)).setCell ⟨s_, 1, none⟩ (.int .i64 0)).setCell ⟨s_, 2, none⟩ (.int .i64 0)).setCell ⟨s_, 3, none⟩ (.int .i64 0)).heap[k]? = w5.heap[k]?) := ⟨fun k hk => (Below.heap_setCell _ _ _ k hk).trans ((Below.heap_setCell _ _ _ k hk).trans ((Below.heap_setCell _ _ _ k hk).trans (Below.heap_setCell _ _ _ k hk)))⟩
   have HB6 : Aside0 (Below w.heap.size w ((((w5.setCell ⟨s_, 0, none⟩ (.int .i64 0)).setCell ⟨s_, 1, none⟩ (.int .i64 0)).setCell ⟨s_, 2, none⟩ (.int .i64 0)).setCell ⟨s_, 3, none⟩ (.int .i64 0))) := ⟨(((HB5.out.setCell HS5.out _).setCell HS5.out _).setCell HS5.out _).setCell HS5.out _⟩
   clear z0 z1 z2 z3 zf0 zf1 zf2 zf3
   generalize ((((w5.setCell ⟨s_, 0, none⟩ (.int .i64 0)).setCell ⟨s_, 1, none⟩ (.int .i64 0)).setCell ⟨s_, 2, none⟩ (.int .i64 0)).setCell ⟨s_, 3, none⟩ (.int .i64 0)) = w6 at *
   have HO6 := Aside0.mk ((HK5.out bx HNx.out.1).trans HO5.out)
   have HP6 := Aside0.mk ((HK5.out bp HNx.out.2).trans HP5.out)
   clear HO5 HP5 HZ5 HS5 HB5 HK5 HNx
   go_upto_region 7 with fail
   have HBe := Aside0.mk (below_drew HB6.out)
   have HOe : Aside0 (w6.drew.heap[bx]? = some (.cells #[.slice (some ad0) P.length c0, .slice A1 L.length c1, .int .i64 a2, .int .i64 a3, .int .i64 a4, .int .i64 a5, .int .i64 a6, .int .i64 a7, .int .i64 a8, .int .i64 a9, .int .i64 a10, .int .i64 a11, .int .i64 a12] 25)) := ⟨HO6.out⟩
   have HPe : Aside0 (w6.drew.heap[bp]? = some (.cells #[.int .i64 n0, .int .i64 n1] 35)) := ⟨HP6.out⟩
   have hq0 := HS.out.part0
   have hq1 := HS.out.part1
   have hq0_ := eq_true hq0
   have hq1_ := eq_true hq1
   obtain ⟨ad', e0, z0, z1⟩ := at_T60 (Kd.C_below HR0.out HBe.out) part hq0 hq1
   have e0' := Option.some.inj e0
   subst e0'
   clear e0
   refine start_ (n := 14) (S := fun w' => w'.cell? ⟨bp, 0, none⟩ = some (.int .i64 n0) ∧ w'.cell? ⟨bx, 0, none⟩ = some (.slice (some ad0) P.length c0) ∧ w'.cell? (ad0.add (part.toNat * 2)) = some (.int .i64 (rd_T60 P part).f0)) (ds := []) #[false, false, false, false, false, false, false, false, false, false, false, false, false, false] (by kernel_rfl) rfl rfl ⟨(blk_cell HPe.out 0).trans rfl, (blk_cell HOe.out 0).trans rfl, z0⟩ (fun hHeld => ?_)
   generalize w6.drew = we at HBe HOe HPe z0 z1 hHeld ⊢
   refine pure_ (i := 0) (N := some 31) (v := ?_) (a' := ?_) #[true, false, false, false, false, false, false, false, false, false, false, false, false, false] rfl rfl (by kernel_rfl) (fun _ _ _ h => h) (Or.inl ⟨by rfl, ?_⟩) ?_ ?_
   rotate_left
   ·intro w'
    go_simp
    with_reducible rfl
   rotate_left
   ·simp only [Act.put, sAa, sBb, sCc, i64_w, i32_w]
    rfl
   refine pure_ (i := 1) (N := some 32) (v := ?_) (a' := ?_) #[true, true, false, false, false, false, false, false, false, false, false, false, false, false] rfl rfl (by kernel_rfl) (fun _ _ _ h => h) (Or.inl ⟨by rfl, ?_⟩) ?_ ?_
   rotate_left
   ·intro w'
    go_simp
    with_reducible rfl
   rotate_left
   ·simp only [Act.put, sAa, sBb, sCc, i64_w, i32_w]
    rfl
   refine pure_ (i := 3) (N := some 34) (v := ?_) (a' := ?_) #[true, true, false, true, false, false, false, false, false, false, false, false, false, false] rfl rfl (by kernel_rfl) (fun _ _ _ h => h) (Or.inl ⟨by rfl, ?_⟩) ?_ ?_
   rotate_left
   ·intro w'
    go_simp
    with_reducible rfl
   rotate_left
   ·simp only [Act.put, sAa, sBb, sCc, i64_w, i32_w]
    rfl
   refine pure_ (i := 5) (N := some 36) (v := ?_) (a' := ?_) #[true, true, false, true, false, true, false, false, false, false, false, false, false, false] rfl rfl (by kernel_rfl) (fun _ _ _ h => h) (Or.inl ⟨by rfl, ?_⟩) ?_ ?_
   rotate_left
   ·intro w'
    go_simp
    with_reducible rfl
   rotate_left
   ·simp only [Act.put, sAa, sBb, sCc, i64_w, i32_w]
    rfl
   refine take_ (i := 2) (N := some 33) (v := ?_) (a' := ?_) #[true, true, true, true, false, true, false, false, false, false, false, false, false, false] rfl rfl (by kernel_rfl) (fun _ _ _ h => h) (Or.inl ⟨by rfl, ?_⟩) hHeld ?_ ?_
   rotate_left
   ·rintro w' ⟨s0, s1, s2⟩
    go_simp
    with_reducible rfl
   rotate_left
   ·simp only [Act.put, sAa, sBb, sCc, i64_w, i32_w]
    rfl
   refine take_ (i := 4) (N := some 35) (v := ?_) (a' := ?_) #[true, true, true, true, true, true, false, false, false, false, false, false, false, false] rfl rfl (by kernel_rfl) (fun _ _ _ h => h) (Or.inl ⟨by rfl, ?_⟩) hHeld ?_ ?_
   rotate_left
   ·rintro w' ⟨s0, s1, s2⟩
    go_simp
    with_reducible rfl
   rotate_left
   ·simp only [Act.put, sAa, sBb, sCc, i64_w, i32_w]
    rfl
   refine pure_ (i := 6) (N := some 37) (v := ?_) (a' := ?_) #[true, true, true, true, true, true, true, false, false, false, false, false, false, false] rfl rfl (by kernel_rfl) (fun _ _ _ h => h) (Or.inl ⟨by rfl, ?_⟩) ?_ ?_
   rotate_left
   ·intro w'
    go_simp
    with_reducible rfl
   rotate_left
   ·simp only [Act.put, sAa, sBb, sCc, i64_w, i32_w]
    rfl
   refine pure_ (i := 7) (N := some 38) (v := ?_) (a' := ?_) #[true, true, true, true, true, true, true, true, false, false, false, false, false, false] rfl rfl (by kernel_rfl) (fun _ _ _ h => h) (Or.inl ⟨by rfl, ?_⟩) ?_ ?_
   rotate_left
   ·intro w'
    go_simp
    with_reducible rfl
   rotate_left
   ·simp only [Act.put, sAa, sBb, sCc, i64_w, i32_w]
    rfl
   refine take_ (i := 8) (N := some 39) (v := ?_) (a' := ?_) #[true, true, true, true, true, true, true, true, true, false, false, false, false, false] rfl rfl (by kernel_rfl) (fun _ _ _ h => h) (Or.inl ⟨by rfl, ?_⟩) hHeld ?_ ?_
   rotate_left
   ·rintro w' ⟨s0, s1, s2⟩
    go_simp
    with_reducible rfl
   rotate_left
   ·simp only [Act.put, sAa, sBb, sCc, i64_w, i32_w]
    rfl
   refine one_ (i := 9) (N := some 40) #[true, true, true, true, true, true, true, true, true, true, false, false, false, false] rfl rfl (by kernel_rfl) (by decide) (fun K hK => ?_)
   refine goes_ Tryd.func50 (by kernel_rfl) rfl #[.int .i64 n0, .int .i64 (rd_T60 P part).f0] (by rfl) rfl rfl (by simp only [List.map_toArray, List.map_cons, List.map_nil]; rfl) ?_
   with_reducible refine (is_yes n0 (rd_T60 P part).f0 _ HS.out.n0 HS.out.n1).mono ?_
   rintro e w7 ⟨rfl, hb⟩
   have HB7 := Aside0.mk (below_step HBe.out hb)
   have HO7 := Aside0.mk ((hb.block bx (blk_lt HOe.out)).trans HOe.out)
   have HP7 := Aside0.mk ((hb.block bp (blk_lt HPe.out)).trans HPe.out)
   have z7 := (hb.cell (block_lt_of_cell z0)).trans z0
   clear hb
   refine ⟨_, rfl, ?_⟩
   refine hK.out _ _ ⟨(blk_cell HP7.out 0).trans rfl, (blk_cell HO7.out 0).trans rfl, z7⟩ (fun hHeld => ?_)
   clear hK K
   refine norm_ (a' := ?_) ?_ ?_
   rotate_left
   ·show Act.put _ (some 40) _ = _
    simp only [Act.put, sAa, sBb, sCc, i64_w, i32_w]
    rfl
   refine pure_ (i := 10) (N := some 41) (v := ?_) (a' := ?_) #[true, true, true, true, true, true, true, true, true, true, true, false, false, false] rfl rfl (by kernel_rfl) (fun _ _ _ h => h) (Or.inl ⟨by rfl, ?_⟩) ?_ ?_
   rotate_left
   ·intro w'
    go_simp
    with_reducible rfl
   rotate_left
   ·simp only [Act.put, sAa, sBb, sCc, i64_w, i32_w]
    rfl
   refine pure_ (i := 11) (N := some 42) (v := ?_) (a' := ?_) #[true, true, true, true, true, true, true, true, true, true, true, true, false, false] rfl rfl (by kernel_rfl) (fun _ _ _ h => h) (Or.inl ⟨by rfl, ?_⟩) ?_ ?_
   rotate_left
   ·intro w'
    go_simp
    with_reducible rfl
   rotate_left
   ·simp only [Act.put, sAa, sBb, sCc, i64_w, i32_w]
    rfl
   refine pure_ (i := 12) (N := some 43) (v := ?_) (a' := ?_) #[true, true, true, true, true, true, true, true, true, true, true, true, true, false] rfl rfl (by kernel_rfl) (fun _ _ _ h => h) (Or.inl ⟨by rfl, ?_⟩) ?_ ?_
   rotate_left
   ·intro w'
    go_simp
    with_reducible rfl
   rotate_left
   ·simp only [Act.put, sAa, sBb, sCc, i64_w, i32_w]
    rfl
   refine pure_ (i := 13) (N := some 44) (v := ?_) (a' := ?_) #[true, true, true, true, true, true, true, true, true, true, true, true, true, true] rfl rfl (by kernel_rfl) (fun _ _ _ h => h) (Or.inl ⟨by rfl, ?_⟩) ?_ ?_
   rotate_left
   ·intro w'
    go_simp
    with_reducible rfl
   rotate_left
   ·simp only [Act.put, sAa, sBb, sCc, i64_w, i32_w]
    rfl
   refine done_ (by kernel_rfl) ?_
   clear z0 z1 z7
   go_wp2_with fail
   go_roundg k1
   case measure => have := HK.out; omega
   case rel => exact ⟨1, rfl, ⟨by have := HK.out; omega⟩, HB7, HO7, HP7⟩
  ·subst e
   go_upto_region 6 with fail
   have HBd := Aside0.mk (below_drew HB.out)
   have HOd : Aside0 (wr.drew.heap[bx]? = some (.cells #[.slice (some ad0) P.length c0, .slice A1 L.length c1, .int .i64 a2, .int .i64 a3, .int .i64 a4, .int .i64 a5, .int .i64 a6, .int .i64 a7, .int .i64 a8, .int .i64 a9, .int .i64 a10, .int .i64 a11, .int .i64 a12] 25)) := ⟨HO.out⟩
   have HPd : Aside0 (wr.drew.heap[bp]? = some (.cells #[.int .i64 n0, .int .i64 n1] 35)) := ⟨HP.out⟩
   refine start_ (n := 13) (S := fun w' => w'.cell? ⟨bx, 0, none⟩ = some (.slice (some ad0) P.length c0) ∧ w'.cell? ⟨bx, 1, none⟩ = some (.slice A1 L.length c1) ∧ w'.cell? ⟨bx, 2, none⟩ = some (.int .i64 a2) ∧ w'.cell? ⟨bx, 3, none⟩ = some (.int .i64 a3) ∧ w'.cell? ⟨bx, 4, none⟩ = some (.int .i64 a4) ∧ w'.cell? ⟨bx, 5, none⟩ = some (.int .i64 a5) ∧ w'.cell? ⟨bx, 6, none⟩ = some (.int .i64 a6) ∧ w'.cell? ⟨bx, 7, none⟩ = some (.int .i64 a7) ∧ w'.cell? ⟨bx, 8, none⟩ = some (.int .i64 a8) ∧ w'.cell? ⟨bx, 9, none⟩ = some (.int .i64 a9) ∧ w'.cell? ⟨bx, 10, none⟩ = some (.int .i64 a10) ∧ w'.cell? ⟨bx, 11, none⟩ = some (.int .i64 a11) ∧ w'.cell? ⟨bx, 12, none⟩ = some (.int .i64 a12) ∧ w'.cell? ⟨bp, 1, none⟩ = some (.int .i64 n1)) (ds := [11]) #[false, false, false, false, false, false, false, false, false, false, false, false, false] (by kernel_rfl) rfl rfl ⟨(blk_cell HOd.out 0).trans rfl, (blk_cell HOd.out 1).trans rfl, (blk_cell HOd.out 2).trans rfl, (blk_cell HOd.out 3).trans rfl, (blk_cell HOd.out 4).trans rfl, (blk_cell HOd.out 5).trans rfl, (blk_cell HOd.out 6).trans rfl, (blk_cell HOd.out 7).trans rfl, (blk_cell HOd.out 8).trans rfl, (blk_cell HOd.out 9).trans rfl, (blk_cell HOd.out 10).trans rfl, (blk_cell HOd.out 11).trans rfl, (blk_cell HOd.out 12).trans rfl, (blk_cell HPd.out 1).trans rfl⟩ (fun hHeld => ?_)
   generalize wr.drew = wd at HBd HOd HPd hHeld ⊢
   refine pure_ (i := 1) (N := some 23) (v := ?_) (a' := ?_) #[false, true, false, false, false, false, false, false, false, false, false, false, false] rfl rfl (by kernel_rfl) (fun _ _ _ h => h) (Or.inl ⟨by rfl, ?_⟩) ?_ ?_
   rotate_left
   ·intro w'
    go_simp
    with_reducible rfl
   rotate_left
   ·simp only [Act.put, sAa, sBb, sCc, i64_w, i32_w]
    rfl
   refine pure_ (i := 2) (N := some 24) (v := ?_) (a' := ?_) #[false, true, true, false, false, false, false, false, false, false, false, false, false] rfl rfl (by kernel_rfl) (fun _ _ _ h => h) (Or.inl ⟨by rfl, ?_⟩) ?_ ?_
   rotate_left
   ·intro w'
    go_simp
    with_reducible rfl
   rotate_left
   ·simp only [Act.put, sAa, sBb, sCc, i64_w, i32_w]
    rfl
   refine pure_ (i := 3) (N := some 25) (v := ?_) (a' := ?_) #[false, true, true, true, false, false, false, false, false, false, false, false, false] rfl rfl (by kernel_rfl) (fun _ _ _ h => h) (Or.inl ⟨by rfl, ?_⟩) ?_ ?_
   rotate_left
   ·intro w'
    go_simp
    with_reducible rfl
   rotate_left
   ·simp only [Act.put, sAa, sBb, sCc, i64_w, i32_w]
    rfl
   refine pure_ (i := 4) (N := some 26) (v := ?_) (a' := ?_) #[false, true, true, true, true, false, false, false, false, false, false, false, false] rfl rfl (by kernel_rfl) (fun _ _ _ h => h) (Or.inl ⟨by rfl, ?_⟩) ?_ ?_
   rotate_left
   ·intro w'
    go_simp
    with_reducible rfl
   rotate_left
   ·simp only [Act.put, sAa, sBb, sCc, i64_w, i32_w]
    rfl
   refine take_ (i := 0) (N := some 22) (v := ?_) (a' := ?_) #[true, true, true, true, true, false, false, false, false, false, false, false, false] rfl rfl (by kernel_rfl) (fun _ _ _ h => h) (Or.inl ⟨by rfl, ?_⟩) hHeld ?_ ?_
   rotate_left
   ·rintro w' ⟨s0, s1, s2, s3, s4, s5, s6, s7, s8, s9, s10, s11, s12, s13⟩
    go_simp
    with_reducible rfl
   rotate_left
   ·simp only [Act.put, sAa, sBb, sCc, i64_w, i32_w]
    rfl
   refine take_ (i := 5) (N := some 27) (v := ?_) (a' := ?_) #[true, true, true, true, true, true, false, false, false, false, false, false, false] rfl rfl (by kernel_rfl) (fun _ _ _ h => h) (Or.inl ⟨by rfl, ?_⟩) hHeld ?_ ?_
   rotate_left
   ·rintro w' ⟨s0, s1, s2, s3, s4, s5, s6, s7, s8, s9, s10, s11, s12, s13⟩
    go_simp
    with_reducible rfl
   rotate_left
   ·simp only [Act.put, sAa, sBb, sCc, i64_w, i32_w]
    rfl
   refine join_ (σ := Nat) 2 #[true, true, true, true, true, true, true, true, true, true, true, false, false] (fun s_ => [(28, .tuple #[.agg #[.int .i64 0, .int .i64 0, .int .i64 0, .int .i64 0], .bool false]), (10, .pointer (some ⟨s_, 0, none⟩)), (21, .tuple #[.agg #[.int .i64 0, .int .i64 0, .int .i64 0, .int .i64 0], .bool false]), (29, .agg #[.int .i64 0, .int .i64 0, .int .i64 0, .int .i64 0]), (30, .bool false)]) (fun s_ w' => (w'.cell? ⟨bx, 0, none⟩ = some (.slice (some ad0) P.length c0) ∧ w'.cell? ⟨bx, 1, none⟩ = some (.slice A1 L.length c1) ∧ w'.cell? ⟨bx, 2, none⟩ = some (.int .i64 a2) ∧ w'.cell? ⟨bx, 3, none⟩ = some (.int .i64 a3) ∧ w'.cell? ⟨bx, 4, none⟩ = some (.int .i64 a4) ∧ w'.cell? ⟨bx, 5, none⟩ = some (.int .i64 a5) ∧ w'.cell? ⟨bx, 6, none⟩ = some (.int .i64 a6) ∧ w'.cell? ⟨bx, 7, none⟩ = some (.int .i64 a7) ∧ w'.cell? ⟨bx, 8, none⟩ = some (.int .i64 a8) ∧ w'.cell? ⟨bx, 9, none⟩ = some (.int .i64 a9) ∧ w'.cell? ⟨bx, 10, none⟩ = some (.int .i64 a10) ∧ w'.cell? ⟨bx, 11, none⟩ = some (.int .i64 a11) ∧ w'.cell? ⟨bx, 12, none⟩ = some (.int .i64 a12) ∧ w'.cell? ⟨bp, 1, none⟩ = some (.int .i64 n1)) ∧ w'.heap[bx]? = some (.cells #[.slice (some ad0) P.length c0, .slice A1 L.length c1, .int .i64 a2, .int .i64 a3, .int .i64 a4, .int .i64 a5, .int .i64 a6, .int .i64 a7, .int .i64 a8, .int .i64 a9, .int .i64 a10, .int .i64 a11, .int .i64 a12] 25) ∧ w'.heap[bp]? = some (.cells #[.int .i64 n0, .int .i64 n1] 35) ∧ w'.heap[s_]? = some (.cells #[.int .i64 0, .int .i64 0, .int .i64 0, .int .i64 0] 124) ∧ w.heap.size ≤ s_ ∧ Below w.heap.size w w') ?_ ?_
   rotate_left
   ·intro hCont
    refine two_ (i := 6) (j := 10) (Ni := some 28) (Nj := some 10) #[true, true, true, true, true, true, true, false, false, false, false, false, false] #[true, true, true, true, true, true, false, false, false, false, true, false, false] rfl rfl rfl rfl (by kernel_rfl) (by decide) (by decide) (fun K hK => ?_) (fun K hK => ?_)
    ·skip
     refine goes_ Tryd.func85 (by kernel_rfl) rfl #[.agg #[.slice (some ad0) P.length c0, .slice A1 L.length c1, .int .i64 a2, .int .i64 a3, .int .i64 a4, .int .i64 a5, .int .i64 a6, .int .i64 a7, .int .i64 a8, .int .i64 a9, .int .i64 a10, .int .i64 a11, .int .i64 a12], .int .i64 i, .int .i64 part, .int .i64 n1] (by rfl) rfl rfl (by simp only [List.map_toArray, List.map_cons, List.map_nil]; rfl) ?_
     with_reducible refine (port_no (some ad0) c0 P A1 c1 L a2 a3 a4 a5 a6 a7 a8 a9 a10 a11 a12 i part n1 (wd) (Kd.C_below HR0.out HBd.out) HC0.out (Kd.C_below HR1.out HBd.out) HC1.out HL.out.1 HL.out.2.1 HL.out.2.2 HS.out.t1).mono ?_
     rintro e w3 ⟨rfl, hb⟩
     have HB3 := Aside0.mk (below_step HBd.out hb)
     have HO3 := Aside0.mk ((hb.block bx (blk_lt HOd.out)).trans HOd.out)
     have HP3 := Aside0.mk ((hb.block bp (blk_lt HPd.out)).trans HPd.out)
     clear hb
     refine ⟨_, rfl, ?_⟩
     refine hK.out _ _ ⟨(blk_cell HO3.out 0).trans rfl, (blk_cell HO3.out 1).trans rfl, (blk_cell HO3.out 2).trans rfl, (blk_cell HO3.out 3).trans rfl, (blk_cell HO3.out 4).trans rfl, (blk_cell HO3.out 5).trans rfl, (blk_cell HO3.out 6).trans rfl, (blk_cell HO3.out 7).trans rfl, (blk_cell HO3.out 8).trans rfl, (blk_cell HO3.out 9).trans rfl, (blk_cell HO3.out 10).trans rfl, (blk_cell HO3.out 11).trans rfl, (blk_cell HO3.out 12).trans rfl, (blk_cell HP3.out 1).trans rfl⟩ (fun hHeld => ?_)
     clear hK K
     refine norm_ (a' := ?_) ?_ ?_
     rotate_left
     ·show Act.put _ (some 28) _ = _
      simp only [Act.put, sAa, sBb, sCc, i64_w, i32_w]
      rfl
     refine pure_ (i := 7) (N := some 21) (v := ?_) (a' := ?_) #[true, true, true, true, true, true, true, true, false, false, false, false, false] rfl rfl (by kernel_rfl) (fun _ _ _ h => h) (Or.inl ⟨by rfl, ?_⟩) ?_ ?_
     rotate_left
     ·intro w'
      go_simp
      with_reducible rfl
     rotate_left
     ·simp only [Act.put, sAa, sBb, sCc, i64_w, i32_w]
      rfl
     refine pure_ (i := 8) (N := some 29) (v := ?_) (a' := ?_) #[true, true, true, true, true, true, true, true, true, false, false, false, false] rfl rfl (by kernel_rfl) (fun _ _ _ h => h) (Or.inl ⟨by rfl, ?_⟩) ?_ ?_
     rotate_left
     ·intro w'
      go_simp
      with_reducible rfl
     rotate_left
     ·simp only [Act.put, sAa, sBb, sCc, i64_w, i32_w]
      rfl
     refine pure_ (i := 9) (N := some 30) (v := ?_) (a' := ?_) #[true, true, true, true, true, true, true, true, true, true, false, false, false] rfl rfl (by kernel_rfl) (fun _ _ _ h => h) (Or.inl ⟨by rfl, ?_⟩) ?_ ?_
     rotate_left
     ·intro w'
      go_simp
      with_reducible rfl
     rotate_left
     ·simp only [Act.put, sAa, sBb, sCc, i64_w, i32_w]
      rfl
     refine one_ (i := 10) (N := some 10) #[true, true, true, true, true, true, true, true, true, true, true, false, false] rfl rfl (by kernel_rfl) (by decide) (fun K hK => ?_)
     refine value_ (w1 := ?_) (v := ?_) (by rfl) rfl ?_ ?_
     rotate_left 2
     ·go_simp
      constructor
      ·rfl
      ·rfl
     have HO4 := Aside0.mk (((below_alloc (Below.refl w3.heap.size w3) (Obj.cells #[.int .i64 0, .int .i64 0, .int .i64 0, .int .i64 0] 124)).block bx (blk_lt HO3.out)).trans HO3.out)
     have HP4 := Aside0.mk (((below_alloc (Below.refl w3.heap.size w3) (Obj.cells #[.int .i64 0, .int .i64 0, .int .i64 0, .int .i64 0] 124)).block bp (blk_lt HP3.out)).trans HP3.out)
     refine hK.out _ _ ⟨(blk_cell HO4.out 0).trans rfl, (blk_cell HO4.out 1).trans rfl, (blk_cell HO4.out 2).trans rfl, (blk_cell HO4.out 3).trans rfl, (blk_cell HO4.out 4).trans rfl, (blk_cell HO4.out 5).trans rfl, (blk_cell HO4.out 6).trans rfl, (blk_cell HO4.out 7).trans rfl, (blk_cell HO4.out 8).trans rfl, (blk_cell HO4.out 9).trans rfl, (blk_cell HO4.out 10).trans rfl, (blk_cell HO4.out 11).trans rfl, (blk_cell HO4.out 12).trans rfl, (blk_cell HP4.out 1).trans rfl⟩ (fun hHeld => ?_)
     clear hK K
     refine norm_ (a' := ?_) ?_ ?_
     rotate_left
     ·show Act.put _ (some 10) _ = _
      simp only [Act.put, sAa, sBb, sCc, i64_w, i32_w]
      rfl
     exact norm_ (by simp only [putAll, Act.put, sAa, sBb, sCc]) (hCont w3.heap.size _ ⟨⟨(blk_cell HO4.out 0).trans rfl, (blk_cell HO4.out 1).trans rfl, (blk_cell HO4.out 2).trans rfl, (blk_cell HO4.out 3).trans rfl, (blk_cell HO4.out 4).trans rfl, (blk_cell HO4.out 5).trans rfl, (blk_cell HO4.out 6).trans rfl, (blk_cell HO4.out 7).trans rfl, (blk_cell HO4.out 8).trans rfl, (blk_cell HO4.out 9).trans rfl, (blk_cell HO4.out 10).trans rfl, (blk_cell HO4.out 11).trans rfl, (blk_cell HO4.out 12).trans rfl, (blk_cell HP4.out 1).trans rfl⟩, HO4.out, HP4.out, heap_alloc_new w3 (.cells #[.int .i64 0, .int .i64 0, .int .i64 0, .int .i64 0] 124), HB3.out.size, below_alloc HB3.out _⟩)
    ·skip
     refine value_ (w1 := ?_) (v := ?_) (by rfl) rfl ?_ ?_
     rotate_left 2
     ·go_simp
      constructor
      ·rfl
      ·rfl
     have HO4 := Aside0.mk (((below_alloc (Below.refl wd.heap.size wd) (Obj.cells #[.int .i64 0, .int .i64 0, .int .i64 0, .int .i64 0] 124)).block bx (blk_lt HOd.out)).trans HOd.out)
     have HP4 := Aside0.mk (((below_alloc (Below.refl wd.heap.size wd) (Obj.cells #[.int .i64 0, .int .i64 0, .int .i64 0, .int .i64 0] 124)).block bp (blk_lt HPd.out)).trans HPd.out)
     refine hK.out _ _ ⟨(blk_cell HO4.out 0).trans rfl, (blk_cell HO4.out 1).trans rfl, (blk_cell HO4.out 2).trans rfl, (blk_cell HO4.out 3).trans rfl, (blk_cell HO4.out 4).trans rfl, (blk_cell HO4.out 5).trans rfl, (blk_cell HO4.out 6).trans rfl, (blk_cell HO4.out 7).trans rfl, (blk_cell HO4.out 8).trans rfl, (blk_cell HO4.out 9).trans rfl, (blk_cell HO4.out 10).trans rfl, (blk_cell HO4.out 11).trans rfl, (blk_cell HO4.out 12).trans rfl, (blk_cell HP4.out 1).trans rfl⟩ (fun hHeld => ?_)
     clear hK K
     refine norm_ (a' := ?_) ?_ ?_
     rotate_left
     ·show Act.put _ (some 10) _ = _
      simp only [Act.put, sAa, sBb, sCc, i64_w, i32_w]
      rfl
     refine one_ (i := 6) (N := some 28) #[true, true, true, true, true, true, true, false, false, false, true, false, false] rfl rfl (by kernel_rfl) (by decide) (fun K hK => ?_)
     refine goes_ Tryd.func85 (by kernel_rfl) rfl #[.agg #[.slice (some ad0) P.length c0, .slice A1 L.length c1, .int .i64 a2, .int .i64 a3, .int .i64 a4, .int .i64 a5, .int .i64 a6, .int .i64 a7, .int .i64 a8, .int .i64 a9, .int .i64 a10, .int .i64 a11, .int .i64 a12], .int .i64 i, .int .i64 part, .int .i64 n1] (by rfl) rfl rfl (by simp only [List.map_toArray, List.map_cons, List.map_nil]; rfl) ?_
     with_reducible refine (port_no (some ad0) c0 P A1 c1 L a2 a3 a4 a5 a6 a7 a8 a9 a10 a11 a12 i part n1 (wd.alloc (.cells #[.int .i64 0, .int .i64 0, .int .i64 0, .int .i64 0] 124)) (Kd.C_below HR0.out (below_alloc HBd.out (Obj.cells #[.int .i64 0, .int .i64 0, .int .i64 0, .int .i64 0] 124))) HC0.out (Kd.C_below HR1.out (below_alloc HBd.out (Obj.cells #[.int .i64 0, .int .i64 0, .int .i64 0, .int .i64 0] 124))) HC1.out HL.out.1 HL.out.2.1 HL.out.2.2 HS.out.t1).mono ?_
     rintro e w3 ⟨rfl, hb⟩
     have HB3 := Aside0.mk (below_step (below_alloc HBd.out (Obj.cells #[.int .i64 0, .int .i64 0, .int .i64 0, .int .i64 0] 124)) hb)
     have HO3 := Aside0.mk ((hb.block bx (blk_lt (((below_alloc (Below.refl wd.heap.size wd) (Obj.cells #[.int .i64 0, .int .i64 0, .int .i64 0, .int .i64 0] 124)).block bx (blk_lt HOd.out)).trans HOd.out))).trans (((below_alloc (Below.refl wd.heap.size wd) (Obj.cells #[.int .i64 0, .int .i64 0, .int .i64 0, .int .i64 0] 124)).block bx (blk_lt HOd.out)).trans HOd.out))
     have HP3 := Aside0.mk ((hb.block bp (blk_lt (((below_alloc (Below.refl wd.heap.size wd) (Obj.cells #[.int .i64 0, .int .i64 0, .int .i64 0, .int .i64 0] 124)).block bp (blk_lt HPd.out)).trans HPd.out))).trans (((below_alloc (Below.refl wd.heap.size wd) (Obj.cells #[.int .i64 0, .int .i64 0, .int .i64 0, .int .i64 0] 124)).block bp (blk_lt HPd.out)).trans HPd.out))
     have HZ3 := Aside0.mk ((hb.block wd.heap.size (blk_lt (heap_alloc_new wd (.cells #[.int .i64 0, .int .i64 0, .int .i64 0, .int .i64 0] 124)))).trans (heap_alloc_new wd (.cells #[.int .i64 0, .int .i64 0, .int .i64 0, .int .i64 0] 124)))
     clear hb
     refine ⟨_, rfl, ?_⟩
     refine hK.out _ _ ⟨(blk_cell HO3.out 0).trans rfl, (blk_cell HO3.out 1).trans rfl, (blk_cell HO3.out 2).trans rfl, (blk_cell HO3.out 3).trans rfl, (blk_cell HO3.out 4).trans rfl, (blk_cell HO3.out 5).trans rfl, (blk_cell HO3.out 6).trans rfl, (blk_cell HO3.out 7).trans rfl, (blk_cell HO3.out 8).trans rfl, (blk_cell HO3.out 9).trans rfl, (blk_cell HO3.out 10).trans rfl, (blk_cell HO3.out 11).trans rfl, (blk_cell HO3.out 12).trans rfl, (blk_cell HP3.out 1).trans rfl⟩ (fun hHeld => ?_)
     clear hK K
     refine norm_ (a' := ?_) ?_ ?_
     rotate_left
     ·show Act.put _ (some 28) _ = _
      simp only [Act.put, sAa, sBb, sCc, i64_w, i32_w]
      rfl
     refine pure_ (i := 7) (N := some 21) (v := ?_) (a' := ?_) #[true, true, true, true, true, true, true, true, false, false, true, false, false] rfl rfl (by kernel_rfl) (fun _ _ _ h => h) (Or.inl ⟨by rfl, ?_⟩) ?_ ?_
     rotate_left
     ·intro w'
      go_simp
      with_reducible rfl
     rotate_left
     ·simp only [Act.put, sAa, sBb, sCc, i64_w, i32_w]
      rfl
     refine pure_ (i := 8) (N := some 29) (v := ?_) (a' := ?_) #[true, true, true, true, true, true, true, true, true, false, true, false, false] rfl rfl (by kernel_rfl) (fun _ _ _ h => h) (Or.inl ⟨by rfl, ?_⟩) ?_ ?_
     rotate_left
     ·intro w'
      go_simp
      with_reducible rfl
     rotate_left
     ·simp only [Act.put, sAa, sBb, sCc, i64_w, i32_w]
      rfl
     refine pure_ (i := 9) (N := some 30) (v := ?_) (a' := ?_) #[true, true, true, true, true, true, true, true, true, true, true, false, false] rfl rfl (by kernel_rfl) (fun _ _ _ h => h) (Or.inl ⟨by rfl, ?_⟩) ?_ ?_
     rotate_left
     ·intro w'
      go_simp
      with_reducible rfl
     rotate_left
     ·simp only [Act.put, sAa, sBb, sCc, i64_w, i32_w]
      rfl
     exact norm_ (by simp only [putAll, Act.put, sAa, sBb, sCc]) (hCont wd.heap.size _ ⟨⟨(blk_cell HO3.out 0).trans rfl, (blk_cell HO3.out 1).trans rfl, (blk_cell HO3.out 2).trans rfl, (blk_cell HO3.out 3).trans rfl, (blk_cell HO3.out 4).trans rfl, (blk_cell HO3.out 5).trans rfl, (blk_cell HO3.out 6).trans rfl, (blk_cell HO3.out 7).trans rfl, (blk_cell HO3.out 8).trans rfl, (blk_cell HO3.out 9).trans rfl, (blk_cell HO3.out 10).trans rfl, (blk_cell HO3.out 11).trans rfl, (blk_cell HO3.out 12).trans rfl, (blk_cell HP3.out 1).trans rfl⟩, HO3.out, HP3.out, HZ3.out, HBd.out.size, HB3.out⟩)
   rintro s_ w5 ⟨hHeld, hO, hP, hZ, hS, hB⟩
   have HO5 := Aside0.mk hO
   have HP5 := Aside0.mk hP
   have HZ5 := Aside0.mk hZ
   have HS5 := Aside0.mk hS
   have HB5 := Aside0.mk hB
   clear hO hP hZ hS hB
   refine norm_ (a' := ?_) ?_ ?_
   rotate_left
   ·simp only [putAll, Act.put, sAa, sBb, sCc]
    rfl
   refine last_ (i := 11) (N := none) #[true, true, true, true, true, true, true, true, true, true, true, true, false] rfl rfl (by kernel_rfl) (by decide) (fun K hK => ?_)
   obtain ⟨z0, z1, z2, z3⟩ := cellsK4 HZ5.out
   have zf0 := blk_frozen HZ5.out 0
   have zf1 := blk_frozen HZ5.out 1
   have zf2 := blk_frozen HZ5.out 2
   have zf3 := blk_frozen HZ5.out 3
   refine skip_ (w1 := ?_) (by rfl) rfl ?_ ?_
   rotate_left
   ·go_simp
    rfl
   refine hK.out _ _ ?_
   clear hK K
   refine pure_ (i := 12) (N := some 11) (v := ?_) (a' := ?_) #[true, true, true, true, true, true, true, true, true, true, true, true, true] rfl rfl (by kernel_rfl) (fun _ _ _ h => h) (Or.inl ⟨by rfl, ?_⟩) ?_ ?_
   rotate_left
   ·intro w'
    go_simp
    with_reducible rfl
   rotate_left
   ·simp only [Act.put, sAa, sBb, sCc, i64_w, i32_w]
    rfl
   refine done_ (by kernel_rfl) ?_
   have HNx : Aside0 (bx ≠ s_ ∧ bp ≠ s_) := ⟨by
    refine ⟨?_, ?_⟩
    ·rintro rfl
     have h1 := HO5.out
     rw [HZ5.out] at h1
     injection h1 with h1
     injection h1 with _ h1 _
     exact absurd h1 (by decide)
    ·rintro rfl
     have h1 := HP5.out
     rw [HZ5.out] at h1
     injection h1 with h1
     injection h1 with _ h1 _
     exact absurd h1 (by decide)⟩
   have HK5 : Aside0 (∀ k, k ≠ s_ → ((((w5.setCell ⟨s_, 0, none⟩ (.int .i64 0)).setCell ⟨s_, 1, none⟩ (.int .i64 0)).setCell ⟨s_, 2, none⟩ (.int .i64 0)).setCell ⟨s_, 3, none⟩ (.int .i64 0)).heap[k]? = w5.heap[k]?) := ⟨fun k hk => (Below.heap_setCell _ _ _ k hk).trans ((Below.heap_setCell _ _ _ k hk).trans ((Below.heap_setCell _ _ _ k hk).trans (Below.heap_setCell _ _ _ k hk)))⟩
   have HB6 : Aside0 (Below w.heap.size w ((((w5.setCell ⟨s_, 0, none⟩ (.int .i64 0)).setCell ⟨s_, 1, none⟩ (.int .i64 0)).setCell ⟨s_, 2, none⟩ (.int .i64 0)).setCell ⟨s_, 3, none⟩ (.int .i64 0))) := ⟨(((HB5.out.setCell HS5.out _).setCell HS5.out _).setCell HS5.out _).setCell HS5.out _⟩
   clear z0 z1 z2 z3 zf0 zf1 zf2 zf3
   generalize ((((w5.setCell ⟨s_, 0, none⟩ (.int .i64 0)).setCell ⟨s_, 1, none⟩ (.int .i64 0)).setCell ⟨s_, 2, none⟩ (.int .i64 0)).setCell ⟨s_, 3, none⟩ (.int .i64 0)) = w6 at *
   have HO6 := Aside0.mk ((HK5.out bx HNx.out.1).trans HO5.out)
   have HP6 := Aside0.mk ((HK5.out bp HNx.out.2).trans HP5.out)
   clear HO5 HP5 HZ5 HS5 HB5 HK5 HNx
   go_upto_region 7 with fail
   have HBe := Aside0.mk (below_drew HB6.out)
   have HOe : Aside0 (w6.drew.heap[bx]? = some (.cells #[.slice (some ad0) P.length c0, .slice A1 L.length c1, .int .i64 a2, .int .i64 a3, .int .i64 a4, .int .i64 a5, .int .i64 a6, .int .i64 a7, .int .i64 a8, .int .i64 a9, .int .i64 a10, .int .i64 a11, .int .i64 a12] 25)) := ⟨HO6.out⟩
   have HPe : Aside0 (w6.drew.heap[bp]? = some (.cells #[.int .i64 n0, .int .i64 n1] 35)) := ⟨HP6.out⟩
   have hq0 := HS.out.part0
   have hq1 := HS.out.part1
   have hq0_ := eq_true hq0
   have hq1_ := eq_true hq1
   obtain ⟨ad', e0, z0, z1⟩ := at_T60 (Kd.C_below HR0.out HBe.out) part hq0 hq1
   have e0' := Option.some.inj e0
   subst e0'
   clear e0
   refine start_ (n := 14) (S := fun w' => w'.cell? ⟨bp, 1, none⟩ = some (.int .i64 n1) ∧ w'.cell? ⟨bx, 0, none⟩ = some (.slice (some ad0) P.length c0) ∧ w'.cell? (ad0.add (part.toNat * 2)) = some (.int .i64 (rd_T60 P part).f0)) (ds := []) #[false, false, false, false, false, false, false, false, false, false, false, false, false, false] (by kernel_rfl) rfl rfl ⟨(blk_cell HPe.out 1).trans rfl, (blk_cell HOe.out 0).trans rfl, z0⟩ (fun hHeld => ?_)
   generalize w6.drew = we at HBe HOe HPe z0 z1 hHeld ⊢
   refine pure_ (i := 0) (N := some 31) (v := ?_) (a' := ?_) #[true, false, false, false, false, false, false, false, false, false, false, false, false, false] rfl rfl (by kernel_rfl) (fun _ _ _ h => h) (Or.inl ⟨by rfl, ?_⟩) ?_ ?_
   rotate_left
   ·intro w'
    go_simp
    with_reducible rfl
   rotate_left
   ·simp only [Act.put, sAa, sBb, sCc, i64_w, i32_w]
    rfl
   refine pure_ (i := 1) (N := some 32) (v := ?_) (a' := ?_) #[true, true, false, false, false, false, false, false, false, false, false, false, false, false] rfl rfl (by kernel_rfl) (fun _ _ _ h => h) (Or.inl ⟨by rfl, ?_⟩) ?_ ?_
   rotate_left
   ·intro w'
    go_simp
    with_reducible rfl
   rotate_left
   ·simp only [Act.put, sAa, sBb, sCc, i64_w, i32_w]
    rfl
   refine pure_ (i := 3) (N := some 34) (v := ?_) (a' := ?_) #[true, true, false, true, false, false, false, false, false, false, false, false, false, false] rfl rfl (by kernel_rfl) (fun _ _ _ h => h) (Or.inl ⟨by rfl, ?_⟩) ?_ ?_
   rotate_left
   ·intro w'
    go_simp
    with_reducible rfl
   rotate_left
   ·simp only [Act.put, sAa, sBb, sCc, i64_w, i32_w]
    rfl
   refine pure_ (i := 5) (N := some 36) (v := ?_) (a' := ?_) #[true, true, false, true, false, true, false, false, false, false, false, false, false, false] rfl rfl (by kernel_rfl) (fun _ _ _ h => h) (Or.inl ⟨by rfl, ?_⟩) ?_ ?_
   rotate_left
   ·intro w'
    go_simp
    with_reducible rfl
   rotate_left
   ·simp only [Act.put, sAa, sBb, sCc, i64_w, i32_w]
    rfl
   refine take_ (i := 2) (N := some 33) (v := ?_) (a' := ?_) #[true, true, true, true, false, true, false, false, false, false, false, false, false, false] rfl rfl (by kernel_rfl) (fun _ _ _ h => h) (Or.inl ⟨by rfl, ?_⟩) hHeld ?_ ?_
   rotate_left
   ·rintro w' ⟨s0, s1, s2⟩
    go_simp
    with_reducible rfl
   rotate_left
   ·simp only [Act.put, sAa, sBb, sCc, i64_w, i32_w]
    rfl
   refine take_ (i := 4) (N := some 35) (v := ?_) (a' := ?_) #[true, true, true, true, true, true, false, false, false, false, false, false, false, false] rfl rfl (by kernel_rfl) (fun _ _ _ h => h) (Or.inl ⟨by rfl, ?_⟩) hHeld ?_ ?_
   rotate_left
   ·rintro w' ⟨s0, s1, s2⟩
    go_simp
    with_reducible rfl
   rotate_left
   ·simp only [Act.put, sAa, sBb, sCc, i64_w, i32_w]
    rfl
   refine pure_ (i := 6) (N := some 37) (v := ?_) (a' := ?_) #[true, true, true, true, true, true, true, false, false, false, false, false, false, false] rfl rfl (by kernel_rfl) (fun _ _ _ h => h) (Or.inl ⟨by rfl, ?_⟩) ?_ ?_
   rotate_left
   ·intro w'
    go_simp
    with_reducible rfl
   rotate_left
   ·simp only [Act.put, sAa, sBb, sCc, i64_w, i32_w]
    rfl
   refine pure_ (i := 7) (N := some 38) (v := ?_) (a' := ?_) #[true, true, true, true, true, true, true, true, false, false, false, false, false, false] rfl rfl (by kernel_rfl) (fun _ _ _ h => h) (Or.inl ⟨by rfl, ?_⟩) ?_ ?_
   rotate_left
   ·intro w'
    go_simp
    with_reducible rfl
   rotate_left
   ·simp only [Act.put, sAa, sBb, sCc, i64_w, i32_w]
    rfl
   refine take_ (i := 8) (N := some 39) (v := ?_) (a' := ?_) #[true, true, true, true, true, true, true, true, true, false, false, false, false, false] rfl rfl (by kernel_rfl) (fun _ _ _ h => h) (Or.inl ⟨by rfl, ?_⟩) hHeld ?_ ?_
   rotate_left
   ·rintro w' ⟨s0, s1, s2⟩
    go_simp
    with_reducible rfl
   rotate_left
   ·simp only [Act.put, sAa, sBb, sCc, i64_w, i32_w]
    rfl
   refine one_ (i := 9) (N := some 40) #[true, true, true, true, true, true, true, true, true, true, false, false, false, false] rfl rfl (by kernel_rfl) (by decide) (fun K hK => ?_)
   refine goes_ Tryd.func50 (by kernel_rfl) rfl #[.int .i64 n1, .int .i64 (rd_T60 P part).f0] (by rfl) rfl rfl (by simp only [List.map_toArray, List.map_cons, List.map_nil]; rfl) ?_
   with_reducible refine (is_yes n1 (rd_T60 P part).f0 _ HS.out.m0 HS.out.m1).mono ?_
   rintro e w7 ⟨rfl, hb⟩
   have HB7 := Aside0.mk (below_step HBe.out hb)
   have HO7 := Aside0.mk ((hb.block bx (blk_lt HOe.out)).trans HOe.out)
   have HP7 := Aside0.mk ((hb.block bp (blk_lt HPe.out)).trans HPe.out)
   have z7 := (hb.cell (block_lt_of_cell z0)).trans z0
   clear hb
   refine ⟨_, rfl, ?_⟩
   refine hK.out _ _ ⟨(blk_cell HP7.out 1).trans rfl, (blk_cell HO7.out 0).trans rfl, z7⟩ (fun hHeld => ?_)
   clear hK K
   refine norm_ (a' := ?_) ?_ ?_
   rotate_left
   ·show Act.put _ (some 40) _ = _
    simp only [Act.put, sAa, sBb, sCc, i64_w, i32_w]
    rfl
   refine pure_ (i := 10) (N := some 41) (v := ?_) (a' := ?_) #[true, true, true, true, true, true, true, true, true, true, true, false, false, false] rfl rfl (by kernel_rfl) (fun _ _ _ h => h) (Or.inl ⟨by rfl, ?_⟩) ?_ ?_
   rotate_left
   ·intro w'
    go_simp
    with_reducible rfl
   rotate_left
   ·simp only [Act.put, sAa, sBb, sCc, i64_w, i32_w]
    rfl
   refine pure_ (i := 11) (N := some 42) (v := ?_) (a' := ?_) #[true, true, true, true, true, true, true, true, true, true, true, true, false, false] rfl rfl (by kernel_rfl) (fun _ _ _ h => h) (Or.inl ⟨by rfl, ?_⟩) ?_ ?_
   rotate_left
   ·intro w'
    go_simp
    with_reducible rfl
   rotate_left
   ·simp only [Act.put, sAa, sBb, sCc, i64_w, i32_w]
    rfl
   refine pure_ (i := 12) (N := some 43) (v := ?_) (a' := ?_) #[true, true, true, true, true, true, true, true, true, true, true, true, true, false] rfl rfl (by kernel_rfl) (fun _ _ _ h => h) (Or.inl ⟨by rfl, ?_⟩) ?_ ?_
   rotate_left
   ·intro w'
    go_simp
    with_reducible rfl
   rotate_left
   ·simp only [Act.put, sAa, sBb, sCc, i64_w, i32_w]
    rfl
   refine pure_ (i := 13) (N := some 44) (v := ?_) (a' := ?_) #[true, true, true, true, true, true, true, true, true, true, true, true, true, true] rfl rfl (by kernel_rfl) (fun _ _ _ h => h) (Or.inl ⟨by rfl, ?_⟩) ?_ ?_
   rotate_left
   ·intro w'
    go_simp
    with_reducible rfl
   rotate_left
   ·simp only [Act.put, sAa, sBb, sCc, i64_w, i32_w]
    rfl
   refine done_ (by kernel_rfl) ?_
   clear z0 z1 z7
   go_wp2_with fail
   go_roundg k1
   case measure => have := HK.out; omega
   case rel => exact ⟨2, rfl, ⟨by have := HK.out; omega⟩, HB7, HO7, HP7⟩
  ·subst e
   go_wp2_with fail
   go_ret
   exact ⟨rfl, HB.out⟩
end Go.Proofs.YtkhlndhleiaokaaDoor.MHo
set_option linter.unusedVariables false
set_option linter.unusedSimpArgs false
namespace Go.Proofs.YtkhlndhleiaokaaDoor.MHo
open Go.RowKit Go.Proofs.YtkhlndhleiaokaaDoorW.PrintWords Go.Proofs.YtkhlndhleiaokaaDoorW.PrintLast Go.Proofs.YtkhlndhleiaokaaDoorW.PrintMore
set_option maxHeartbeats 8000000 in
set_option maxRecDepth 10000 in
theorem rlink_yes (A0 : Option Addr) (c0 : Nat) (P : List S60) (A1 : Option Addr) (c1 : Nat) (L : List S37) (a2 a3 a4 a5 a6 a7 a8 a9 a10 a11 a12 : Int) (i : Int) (x : S37) (w : World) (hr0 : Kd.C k60 w A0 P.length P) (hc0 : P.length ≤ c0) (hr1 : Kd.C k37 w A1 L.length L) (hc1 : L.length ≤ c1) (hL : L.length ≤ 1000) (hi0 : 0 ≤ i) (hi1 : i < L.length) (hx : rd_T37 L i = x) (hq : LinkOk P (L.take i.toNat) x) :
  Calls Tryd.prog 61 #[.agg #[.slice A0 P.length c0, .slice A1 L.length c1, .int .i64 a2, .int .i64 a3, .int .i64 a4, .int .i64 a5, .int .i64 a6, .int .i64 a7, .int .i64 a8, .int .i64 a9, .int .i64 a10, .int .i64 a11, .int .i64 a12], .int .i64 i] w fun e w' => e = .returned (.int .i64 0) ∧ Below w.heap.size w w' := by
 have HR0 := Aside0.mk hr0
 have HR1 := Aside0.mk hr1
 have HC0 := Aside0.mk hc0
 have HC1 := Aside0.mk hc1
 have HQ := Aside0.mk hq
 have HL := Aside0.mk (show L.length ≤ 1000 ∧ 0 ≤ i ∧ i ≤ (L.length : Int) ∧ i < (L.length : Int) from ⟨hL, hi0, by omega, hi1⟩)
 obtain ⟨ad1, e1, y0, y1, y2, y3, y4, y5⟩ := at_T37 hr1 i hi0 hi1
 subst e1
 rw [hx] at y0 y1 y2 y3 y4 y5
 have p0_ := eq_true hi0
 have p1_ := eq_true hi1
 have hx' := Aside0.mk hx
 clear hr0 hr1 hc0 hc1 hq hL hx
 obtain ⟨a, b, ⟨p0, p1⟩, ⟨q0, q1⟩⟩ := x
 dsimp only at y0 y1 y2 y3 y4 y5
 have HQ' : Aside0 (0 ≤ a ∧ a < b ∧ b < (P.length : Int)) := ⟨HQ.out.a0, HQ.out.ab, HQ.out.b1⟩
 have hge : decide (b ≤ a) = false := decide_eq_false (by have := HQ'.out; omega)
 go_enter Tryd.func61, Tryd.ntmps61
 go_upto_region 1 with fail
 have HO0 : Aside0 ((w.alloc (.cells #[.slice A0 P.length c0, .slice (some ad1) L.length c1, .int .i64 a2, .int .i64 a3, .int .i64 a4, .int .i64 a5, .int .i64 a6, .int .i64 a7, .int .i64 a8, .int .i64 a9, .int .i64 a10, .int .i64 a11, .int .i64 a12] 25)).heap[w.heap.size]? = some (.cells #[.slice A0 P.length c0, .slice (some ad1) L.length c1, .int .i64 a2, .int .i64 a3, .int .i64 a4, .int .i64 a5, .int .i64 a6, .int .i64 a7, .int .i64 a8, .int .i64 a9, .int .i64 a10, .int .i64 a11, .int .i64 a12] 25)) := ⟨heap_alloc_new _ _⟩
 have HB0 := Aside0.mk (below_alloc (Below.refl w.heap.size w) (Obj.cells #[.slice A0 P.length c0, .slice (some ad1) L.length c1, .int .i64 a2, .int .i64 a3, .int .i64 a4, .int .i64 a5, .int .i64 a6, .int .i64 a7, .int .i64 a8, .int .i64 a9, .int .i64 a10, .int .i64 a11, .int .i64 a12] 25))
 generalize w.alloc (.cells #[.slice A0 P.length c0, .slice (some ad1) L.length c1, .int .i64 a2, .int .i64 a3, .int .i64 a4, .int .i64 a5, .int .i64 a6, .int .i64 a7, .int .i64 a8, .int .i64 a9, .int .i64 a10, .int .i64 a11, .int .i64 a12] 25) = wz at *
 obtain ⟨bx, hbx⟩ : ∃ bx, bx = w.heap.size := ⟨_, rfl⟩
 rw [← hbx]
 rw [← hbx] at HO0
 clear hbx y0 y1 y2 y3 y4 y5
 obtain ⟨ad', e1, y0, y1, y2, y3, y4, y5⟩ := at_T37 (Kd.C_below HR1.out HB0.out) i HL.out.2.1 HL.out.2.2.2
 have e1' := Option.some.inj e1
 subst e1'
 clear e1
 rw [hx'.out] at y0 y1 y2 y3 y4 y5
 dsimp only at y0 y1 y2 y3 y4 y5
 obtain ⟨x0, x1, x2, x3, x4, x5, x6, x7, x8, x9, x10, x11, x12⟩ := cellsK13 HO0.out
 go_upto_region 2 with fail
 have HB1 := Aside0.mk (below_alloc HB0.out (Obj.cells #[.int .i64 a, .int .i64 b, .int .i64 p0, .int .i64 p1, .int .i64 q0, .int .i64 q1] 37))
 have HO1 := Aside0.mk (((below_alloc (Below.refl wz.heap.size wz) (Obj.cells #[.int .i64 a, .int .i64 b, .int .i64 p0, .int .i64 p1, .int .i64 q0, .int .i64 q1] 37)).block bx (blk_lt HO0.out)).trans HO0.out)
 have HLk1 : Aside0 ((wz.alloc (Obj.cells #[.int .i64 a, .int .i64 b, .int .i64 p0, .int .i64 p1, .int .i64 q0, .int .i64 q1] 37)).heap[wz.heap.size]? = some (Obj.cells #[.int .i64 a, .int .i64 b, .int .i64 p0, .int .i64 p1, .int .i64 q0, .int .i64 q1] 37)) := ⟨heap_alloc_new _ _⟩
 clear x0 x1 x2 x3 x4 x5 x6 x7 x8 x9 x10 x11 x12 y0 y1 y2 y3 y4 y5
 generalize wz.alloc (Obj.cells #[.int .i64 a, .int .i64 b, .int .i64 p0, .int .i64 p1, .int .i64 q0, .int .i64 q1] 37) = w1 at *
 generalize wz.heap.size = bl at *
 obtain ⟨x0, x1, x2, x3, x4, x5, x6, x7, x8, x9, x10, x11, x12⟩ := cellsK13 HO1.out
 obtain ⟨l0, l1, l2, l3, l4, l5⟩ := cellsK6 HLk1.out
 go_wp2_with fail
 refine (is_yes a (P.length : Int) _ HQ'.out.1 (by have := HQ'.out; omega)).mono ?_
 rintro e w2 ⟨rfl, hb⟩
 clear x0 x1 x2 x3 x4 x5 x6 x7 x8 x9 x10 x11 x12 l0 l1 l2 l3 l4 l5
 have HB2 := Aside0.mk (below_step HB1.out hb)
 have HO2 := Aside0.mk ((hb.block bx (blk_lt HO1.out)).trans HO1.out)
 have HLk2 := Aside0.mk ((hb.block bl (blk_lt HLk1.out)).trans HLk1.out)
 clear hb
 obtain ⟨x0, x1, x2, x3, x4, x5, x6, x7, x8, x9, x10, x11, x12⟩ := cellsK13 HO2.out
 obtain ⟨l0, l1, l2, l3, l4, l5⟩ := cellsK6 HLk2.out
 go_wp2_with fail
 refine (is_yes b (P.length : Int) _ (by have := HQ'.out; omega) HQ'.out.2.2).mono ?_
 rintro e w3 ⟨rfl, hb⟩
 clear x0 x1 x2 x3 x4 x5 x6 x7 x8 x9 x10 x11 x12 l0 l1 l2 l3 l4 l5
 have HB3 := Aside0.mk (below_step HB2.out hb)
 have HO3 := Aside0.mk ((hb.block bx (blk_lt HO2.out)).trans HO2.out)
 have HLk3 := Aside0.mk ((hb.block bl (blk_lt HLk2.out)).trans HLk2.out)
 clear hb
 obtain ⟨x0, x1, x2, x3, x4, x5, x6, x7, x8, x9, x10, x11, x12⟩ := cellsK13 HO3.out
 obtain ⟨l0, l1, l2, l3, l4, l5⟩ := cellsK6 HLk3.out
 go_wp2_with fail
 clear x0 x1 x2 x3 x4 x5 x6 x7 x8 x9 x10 x11 x12 l0 l1 l2 l3 l4 l5 hge
 go_loopg [6] (L.length + 1) (fun kq v6 w' => ∃ k : Int, v6 = .int .i64 k ∧ Aside0 (kq + k = L.length + 1 ∧ 0 ≤ k ∧ k ≤ i) ∧ Aside0 (Below w.heap.size w w') ∧ Aside0 (w'.heap[bx]? = some (.cells #[.slice A0 P.length c0, .slice (some ad1) L.length c1, .int .i64 a2, .int .i64 a3, .int .i64 a4, .int .i64 a5, .int .i64 a6, .int .i64 a7, .int .i64 a8, .int .i64 a9, .int .i64 a10, .int .i64 a11, .int .i64 a12] 25)) ∧ Aside0 (w'.heap[bl]? = some (.cells #[.int .i64 a, .int .i64 b, .int .i64 p0, .int .i64 p1, .int .i64 q0, .int .i64 q1] 37)))
 case atStart => exact ⟨0, rfl, ⟨by have := HL.out; omega⟩, HB3, HO3, HLk3⟩
 case round =>
  clear HB3 HO3 HLk3
  obtain ⟨k, rfl, HK, HB, HO, HLk⟩ := hrel
  by_cases hk : k < i
  ·have hlt : decide (k < i) = true := decide_eq_true hk
   have hk0 := HK.out.2.1
   have hkL : k < (L.length : Int) := by have := HL.out; omega
   have hno := any_take HQ.out.once hk0 hk HL.out.2.2.1
   have HBd := Aside0.mk (below_drew HB.out)
   obtain ⟨ad', e1, y0, y1, y2, y3, y4, y5⟩ := at_T37 (Kd.C_below HR1.out HB.out) k hk0 hkL
   have e1' := Option.some.inj e1
   subst e1'
   clear e1
   obtain ⟨xx, hxx⟩ : ∃ xx, rd_T37 L k = xx := ⟨_, rfl⟩
   rw [hxx] at y0 y1 hno
   clear hxx y2 y3 y4 y5
   obtain ⟨xa, xb, xp, xq⟩ := xx
   dsimp only at y0 y1
   have hno' : (xa == a && xb == b) = false := hno
   clear hno
   have k0_ := eq_true hk0
   have k1_ := eq_true hkL
   have hw1 : wrap64 (k + 1) = k + 1 := by have := HL.out; unfold wrap64; omega
   have x1 : wr.cell? ⟨bx, 1, none⟩ = some (.slice (some ad1) L.length c1) := (blk_cell HO.out 1).trans rfl
   have l0 : wr.cell? ⟨bl, 0, none⟩ = some (.int .i64 a) := (blk_cell HLk.out 0).trans rfl
   have l1 : wr.cell? ⟨bl, 1, none⟩ = some (.int .i64 b) := (blk_cell HLk.out 1).trans rfl
   cases gk with
   | zero => exact absurd HK.out (by have := HL.out; omega)
   | succ k1 =>
   cases hxa : (xa == a) with
   | false =>
    clear hno'
    go_wp2_with fail
    go_quiet (fail)
    go_wp2_with fail
    go_roundg k1
    case measure => have := HK.out; omega
    case rel => exact ⟨k + 1, (by first | rfl | rw [hw1]), ⟨by have := HK.out; have := of_decide_eq_true hlt; omega⟩, ⟨pw_below_drewN HB.out _⟩, HO, HLk⟩
   | true =>
    have hxb : (xb == b) = false := by cases h : (xb == b) <;> simp [hxa, h] at hno' ⊢
    clear hno'
    go_wp2_with fail
    go_quiet (fail)
    go_wp2_with fail
    go_roundg k1
    case measure => have := HK.out; omega
    case rel => exact ⟨k + 1, (by first | rfl | rw [hw1]), ⟨by have := HK.out; have := of_decide_eq_true hlt; omega⟩, ⟨pw_below_drewN HB.out _⟩, HO, HLk⟩
  ·have hlt : decide (k < i) = false := decide_eq_false hk
   obtain ⟨x0, x1, x2, x3, x4, x5, x6, x7, x8, x9, x10, x11, x12⟩ := cellsK13 HO.out
   obtain ⟨l0, l1, l2, l3, l4, l5⟩ := cellsK6 HLk.out
   go_wp2_with fail
   refine (ends_no A0 c0 P (some ad1) c1 L a2 a3 a4 a5 a6 a7 a8 a9 a10 a11 a12 i a p0 p1 _ (Kd.C_below HR0.out HB.out) HC0.out (Kd.C_below HR1.out HB.out) HC1.out HL.out.1 HL.out.2.1 HL.out.2.2.1 HQ.out.s0).mono ?_
   rintro e w5 ⟨rfl, hb⟩
   clear x0 x1 x2 x3 x4 x5 x6 x7 x8 x9 x10 x11 x12 l0 l1 l2 l3 l4 l5
   have HB5 := Aside0.mk (below_step HB.out hb)
   have HO5 := Aside0.mk ((hb.block bx (blk_lt HO.out)).trans HO.out)
   have HLk5 := Aside0.mk ((hb.block bl (blk_lt HLk.out)).trans HLk.out)
   clear hb
   obtain ⟨x0, x1, x2, x3, x4, x5, x6, x7, x8, x9, x10, x11, x12⟩ := cellsK13 HO5.out
   obtain ⟨l0, l1, l2, l3, l4, l5⟩ := cellsK6 HLk5.out
   go_wp2_with fail
   refine (ends_no A0 c0 P (some ad1) c1 L a2 a3 a4 a5 a6 a7 a8 a9 a10 a11 a12 i b q0 q1 _ (Kd.C_below HR0.out HB5.out) HC0.out (Kd.C_below HR1.out HB5.out) HC1.out HL.out.1 HL.out.2.1 HL.out.2.2.1 HQ.out.s1).mono ?_
   rintro e w6 ⟨rfl, hb⟩
   clear x0 x1 x2 x3 x4 x5 x6 x7 x8 x9 x10 x11 x12 l0 l1 l2 l3 l4 l5
   have HB6 := Aside0.mk (below_step HB5.out hb)
   have HO6 := Aside0.mk ((hb.block bx (blk_lt HO5.out)).trans HO5.out)
   have HLk6 := Aside0.mk ((hb.block bl (blk_lt HLk5.out)).trans HLk5.out)
   clear hb
   go_wp2_with fail
   go_ret
   exact ⟨rfl, HB6.out⟩
set_option maxHeartbeats 8000000 in
set_option maxRecDepth 10000 in
theorem rcheck_yes (A0 : Option Addr) (c0 : Nat) (P : List S60) (A1 : Option Addr) (c1 : Nat) (L : List S37) (a2 a3 a4 a5 a6 a7 a8 a9 a10 a11 a12 : Int) (d : List Int) (w : World) (hr0 : Kd.C k60 w A0 P.length P) (hc0 : P.length ≤ c0) (hr1 : Kd.C k37 w A1 L.length L) (hc1 : L.length ≤ c1) (hn : NetOk P L) (hd : drumlineref5_dists.f 100 P L a2 a3 a4 a5 a6 a7 a8 a9 a10 a11 a12 0 = some d) (hp : ∀ x, x ∈ d → 0 ≤ x) (hdl : d.length ≤ 6) :
  Calls Tryd.prog 49 #[.agg #[.slice A0 P.length c0, .slice A1 L.length c1, .int .i64 a2, .int .i64 a3, .int .i64 a4, .int .i64 a5, .int .i64 a6, .int .i64 a7, .int .i64 a8, .int .i64 a9, .int .i64 a10, .int .i64 a11, .int .i64 a12]] w fun e w' => e = .returned (.tuple #[.int .i64 0, .int .i64 0]) ∧ Below w.heap.size w w' := by
 have HR0 := Aside0.mk hr0
 have HR1 := Aside0.mk hr1
 have HC0 := Aside0.mk hc0
 have HC1 := Aside0.mk hc1
 have HN := Aside0.mk hn
 have HD := Aside0.mk hd
 have HP := Aside0.mk hp
 have HDL := Aside0.mk hdl
 have hd1 : decide ((P.length : Int) < 1) = false := decide_eq_false (by have := hn.p1; omega)
 have hd6 : decide ((6 : Int) < (P.length : Int)) = false := decide_eq_false (by have := hn.p6; omega)
 have hd10 : decide ((10 : Int) < (L.length : Int)) = false := decide_eq_false (by have := hn.l10; omega)
 clear hr0 hr1 hc0 hc1 hn hd hp hdl
 go_enter Tryd.func49, Tryd.ntmps49
 go_upto_region 1 with fail
 have HO : Aside0 ((w.alloc (.cells #[.slice A0 P.length c0, .slice A1 L.length c1, .int .i64 a2, .int .i64 a3, .int .i64 a4, .int .i64 a5, .int .i64 a6, .int .i64 a7, .int .i64 a8, .int .i64 a9, .int .i64 a10, .int .i64 a11, .int .i64 a12] 25)).heap[w.heap.size]? = some (.cells #[.slice A0 P.length c0, .slice A1 L.length c1, .int .i64 a2, .int .i64 a3, .int .i64 a4, .int .i64 a5, .int .i64 a6, .int .i64 a7, .int .i64 a8, .int .i64 a9, .int .i64 a10, .int .i64 a11, .int .i64 a12] 25)) := ⟨heap_alloc_new _ _⟩
 have HB := Aside0.mk (below_alloc (Below.refl w.heap.size w) (Obj.cells #[.slice A0 P.length c0, .slice A1 L.length c1, .int .i64 a2, .int .i64 a3, .int .i64 a4, .int .i64 a5, .int .i64 a6, .int .i64 a7, .int .i64 a8, .int .i64 a9, .int .i64 a10, .int .i64 a11, .int .i64 a12] 25))
 generalize w.alloc (.cells #[.slice A0 P.length c0, .slice A1 L.length c1, .int .i64 a2, .int .i64 a3, .int .i64 a4, .int .i64 a5, .int .i64 a6, .int .i64 a7, .int .i64 a8, .int .i64 a9, .int .i64 a10, .int .i64 a11, .int .i64 a12] 25) = wa at *
 obtain ⟨bx, hbx⟩ : ∃ bx, bx = w.heap.size := ⟨_, rfl⟩
 rw [← hbx]
 rw [← hbx] at HO
 clear hbx
 have xa0 : wa.cell? ⟨bx, 0, none⟩ = some (.slice A0 P.length c0) := (blk_cell HO.out 0).trans rfl
 go_wp2_with fail
 clear xa0 hd1 hd6
 go_loopg [4] (P.length + 1) (fun kq v4 w' => ∃ i : Int, v4 = .int .i64 i ∧ Aside0 (kq + i = P.length + 1 ∧ 0 ≤ i) ∧ Aside0 (Below w.heap.size w w') ∧ Aside0 (w'.heap[bx]? = some (.cells #[.slice A0 P.length c0, .slice A1 L.length c1, .int .i64 a2, .int .i64 a3, .int .i64 a4, .int .i64 a5, .int .i64 a6, .int .i64 a7, .int .i64 a8, .int .i64 a9, .int .i64 a10, .int .i64 a11, .int .i64 a12] 25)))
 case atStart => exact ⟨0, rfl, ⟨by omega⟩, HB, HO⟩
 case round =>
  clear HB HO
  obtain ⟨i, rfl, HK, HB, HO⟩ := hrel
  have xa0 : wr.cell? ⟨bx, 0, none⟩ = some (.slice A0 P.length c0) := (blk_cell HO.out 0).trans rfl
  have xa1 : wr.cell? ⟨bx, 1, none⟩ = some (.slice A1 L.length c1) := (blk_cell HO.out 1).trans rfl
  by_cases hi1 : i < (P.length : Int)
  ·have hi0 := HK.out.2
   obtain ⟨ad0, e0, y0, y1⟩ := at_T60 (Kd.C_below HR0.out HB.out) i hi0 hi1
   cases e0
   have HQ := Aside0.mk (HN.out.parts i hi0 hi1)
   obtain ⟨n, f, hx⟩ : ∃ n f, rd_T60 P i = ⟨n, f⟩ := ⟨_, _, rfl⟩
   rw [hx] at y0 y1 HQ
   clear hx
   dsimp only at y0 y1
   have HQ' : Aside0 (1 ≤ n ∧ n ≤ 12 ∧ 0 ≤ f ∧ f ≤ 3 ∧ 3 * f + 1 ≤ n) := ⟨HQ.out⟩
   have hlt : decide (i < (P.length : Int)) = true := decide_eq_true hi1
   have p0_ := eq_true hi0
   have p1_ := eq_true hi1
   have hw1 : wrap64 (i + 1) = i + 1 := by have := HN.out.p6; unfold wrap64; omega
   have t1 : decide (n < 1) = false := decide_eq_false (by have := HQ'.out; omega)
   have t2 : decide (12 < n) = false := decide_eq_false (by have := HQ'.out; omega)
   have t3 : decide (f < 0) = false := decide_eq_false (by have := HQ'.out; omega)
   have t4 : decide (3 < f) = false := decide_eq_false (by have := HQ'.out; omega)
   have t5 : wrap64 (3 * f) = 3 * f := by have := HQ'.out; unfold wrap64; omega
   have t6 : wrap64 (3 * f + 1) = 3 * f + 1 := by have := HQ'.out; unfold wrap64; omega
   have t7 : decide (n < 3 * f + 1) = false := decide_eq_false (by have := HQ'.out; omega)
   cases gk with
   | zero => exact absurd HK.out (by omega)
   | succ k1 =>
   go_wp2_with fail
   go_roundg k1
   case measure => have := HK.out; omega
   case rel => exact ⟨i + 1, (by first | rfl | rw [hw1]), ⟨by have := HK.out; omega⟩, ⟨by repeat (first | exact HB.out | apply below_alloc)⟩, ⟨((below_alloc (Below.refl wr.heap.size wr) _).block bx (blk_lt HO.out)).trans HO.out⟩⟩
  ·have hlt : decide (i < (P.length : Int)) = false := decide_eq_false hi1
   go_wp2_with fail
   clear xa0 xa1 hd10 hlt
   go_loopg [6] (L.length + 1) (fun kq v6 w' => ∃ i : Int, v6 = .int .i64 i ∧ Aside0 (kq + i = L.length + 1 ∧ 0 ≤ i) ∧ Aside0 (Below w.heap.size w w') ∧ Aside0 (w'.heap[bx]? = some (.cells #[.slice A0 P.length c0, .slice A1 L.length c1, .int .i64 a2, .int .i64 a3, .int .i64 a4, .int .i64 a5, .int .i64 a6, .int .i64 a7, .int .i64 a8, .int .i64 a9, .int .i64 a10, .int .i64 a11, .int .i64 a12] 25)))
   case atStart => exact ⟨0, rfl, ⟨by omega⟩, HB, HO⟩
   case round =>
    clear HB HO HK hi1
    obtain ⟨i, rfl, HK, HB, HO⟩ := hrel
    obtain ⟨x0, x1, x2, x3, x4, x5, x6, x7, x8, x9, x10, x11, x12⟩ := cellsK13 HO.out
    by_cases hi1 : i < (L.length : Int)
    ·have hi0 := HK.out.2
     have hlt : decide (i < (L.length : Int)) = true := decide_eq_true hi1
     have hw1 : wrap64 (i + 1) = i + 1 := by have := HN.out.l10; unfold wrap64; omega
     cases gk with
     | zero => exact absurd HK.out (by omega)
     | succ k1 =>
     go_wp2_with fail
     refine (rlink_yes A0 c0 P A1 c1 L a2 a3 a4 a5 a6 a7 a8 a9 a10 a11 a12 i _ _ (Kd.C_below HR0.out HB.out) HC0.out (Kd.C_below HR1.out HB.out) HC1.out (by have := HN.out.l10; omega) hi0 hi1 rfl (HN.out.links i hi0 hi1)).mono ?_
     rintro e w2 ⟨rfl, hb⟩
     clear x0 x1 x2 x3 x4 x5 x6 x7 x8 x9 x10 x11 x12
     have HB2 := Aside0.mk (below_step HB.out hb)
     have HO2 := Aside0.mk ((hb.block bx (blk_lt HO.out)).trans HO.out)
     clear hb
     go_wp2_with fail
     go_roundg k1
     case measure => have := HK.out; omega
     case rel => exact ⟨i + 1, (by first | rfl | rw [hw1]), ⟨by have := HK.out; omega⟩, HB2, HO2⟩
    ·have hlt : decide (i < (L.length : Int)) = false := decide_eq_false hi1
     go_wp2_with fail
     refine (drumlineref5_dists.calls 100 A0 c0 P A1 c1 L a2 a3 a4 a5 a6 a7 a8 a9 a10 a11 a12 0 d _ (Kd.C_below HR0.out HB.out) HC0.out (Kd.C_below HR1.out HB.out) HC1.out HD.out).mono ?_
     rintro e w4 ⟨v4, rfl, ho4, hb⟩
     obtain ⟨A4, c4, rfl⟩ := Kd.R_slice ho4
     have R4 := Aside0.mk (Kd.R_reads' ho4).2.2
     clear ho4
     clear x0 x1 x2 x3 x4 x5 x6 x7 x8 x9 x10 x11 x12
     have HB4 := Aside0.mk (below_step HB.out hb)
     have HO4 := Aside0.mk ((hb.block bx (blk_lt HO.out)).trans HO.out)
     clear hb
     go_wp2_with fail
     clear hlt
     go_loopg [9] (d.length + 1) (fun kq v9 w' => ∃ i : Int, v9 = .int .i64 i ∧ Aside0 (kq + i = d.length + 1 ∧ 0 ≤ i) ∧ Aside0 (Below w4.heap.size w4 w'))
     case atStart => exact ⟨0, rfl, ⟨by omega⟩, ⟨Below.refl _ _⟩⟩
     case round =>
      clear HK hi1
      obtain ⟨i, rfl, HK, HBx⟩ := hrel
      by_cases hi1 : i < (d.length : Int)
      ·have hi0 := HK.out.2
       obtain ⟨ad4, e4, y0⟩ := Kd.at_int (Kd.C_below R4.out HBx.out) i hi0 hi1
       cases e4
       have hlt : decide (i < (d.length : Int)) = true := decide_eq_true hi1
       have p0_ := eq_true hi0
       have p1_ := eq_true hi1
       have hw1 : wrap64 (i + 1) = i + 1 := by have := HDL.out; unfold wrap64; omega
       have hge : decide (rd d i < 0) = false := decide_eq_false (by
        have hm : rd d i ∈ d := by
         have hlt' : i.toNat < d.length := by omega
         have e : rd d i = d[i.toNat] := by simp [rd, List.getD_eq_getElem?_getD, hlt']
         rw [e]; exact List.getElem_mem hlt'
        have := HP.out _ hm; omega)
       cases gk with
       | zero => exact absurd HK.out (by omega)
       | succ k1 =>
       go_wp2_with fail
       go_roundg k1
       case measure => have := HK.out; omega
       case rel => exact ⟨i + 1, (by first | rfl | rw [hw1]), ⟨by have := HK.out; omega⟩, HBx⟩
      ·have hlt : decide (i < (d.length : Int)) = false := decide_eq_false hi1
       go_wp2_with fail
       go_ret2
       exact ⟨rfl, below_step HB4.out HBx.out⟩
set_option maxHeartbeats 4000000 in
set_option maxRecDepth 4000 in
theorem good_yes (A0 : Option Addr) (c0 : Nat) (P : List S60) (A1 : Option Addr) (c1 : Nat) (L : List S37) (a2 a3 a4 a5 a6 a7 a8 a9 a10 a11 a12 : Int) (part : Int) (d : List Int) (w : World) (hr0 : Kd.C k60 w A0 P.length P) (hc0 : P.length ≤ c0) (hr1 : Kd.C k37 w A1 L.length L) (hc1 : L.length ≤ c1) (hn : NetOk P L) (hd : drumlineref5_dists.f 100 P L a2 a3 a4 a5 a6 a7 a8 a9 a10 a11 a12 0 = some d) (hp : ∀ x, x ∈ d → 0 ≤ x) (hdl : d.length ≤ 6) (h0 : 0 ≤ part) (h1 : part < P.length) :
  Calls Tryd.prog 33 #[.agg #[.slice A0 P.length c0, .slice A1 L.length c1, .int .i64 a2, .int .i64 a3, .int .i64 a4, .int .i64 a5, .int .i64 a6, .int .i64 a7, .int .i64 a8, .int .i64 a9, .int .i64 a10, .int .i64 a11, .int .i64 a12], .int .i64 part] w fun e w' => e = .returned (.bool true) ∧ Below w.heap.size w w' := by
 have hc := fun (W : World) (hB : Below w.heap.size w W) => rcheck_yes A0 c0 P A1 c1 L a2 a3 a4 a5 a6 a7 a8 a9 a10 a11 a12 d W (Kd.C_below hr0 hB) hc0 (Kd.C_below hr1 hB) hc1 hn hd hp hdl
 have HC := Aside0.mk hc
 have HH := Aside0.mk (And.intro h0 h1)
 clear hc hr0 hr1 hc0 hc1 hn hd hp hdl h0 h1
 go_enter Tryd.func33, Tryd.ntmps33
 go_upto_region 1 with fail
 have HO1 : Aside0 ((w.alloc (.cells #[.slice A0 P.length c0, .slice A1 L.length c1, .int .i64 a2, .int .i64 a3, .int .i64 a4, .int .i64 a5, .int .i64 a6, .int .i64 a7, .int .i64 a8, .int .i64 a9, .int .i64 a10, .int .i64 a11, .int .i64 a12] 25)).heap[w.heap.size]? = some (.cells #[.slice A0 P.length c0, .slice A1 L.length c1, .int .i64 a2, .int .i64 a3, .int .i64 a4, .int .i64 a5, .int .i64 a6, .int .i64 a7, .int .i64 a8, .int .i64 a9, .int .i64 a10, .int .i64 a11, .int .i64 a12] 25)) := ⟨heap_alloc_new _ _⟩
 have HB1 := Aside0.mk (below_alloc (Below.refl w.heap.size w) (Obj.cells #[.slice A0 P.length c0, .slice A1 L.length c1, .int .i64 a2, .int .i64 a3, .int .i64 a4, .int .i64 a5, .int .i64 a6, .int .i64 a7, .int .i64 a8, .int .i64 a9, .int .i64 a10, .int .i64 a11, .int .i64 a12] 25))
 generalize w.alloc (.cells #[.slice A0 P.length c0, .slice A1 L.length c1, .int .i64 a2, .int .i64 a3, .int .i64 a4, .int .i64 a5, .int .i64 a6, .int .i64 a7, .int .i64 a8, .int .i64 a9, .int .i64 a10, .int .i64 a11, .int .i64 a12] 25) = w1 at *
 obtain ⟨bx, hbx⟩ : ∃ bx, bx = w.heap.size := ⟨_, rfl⟩
 rw [← hbx]
 rw [← hbx] at HO1
 clear hbx
 obtain ⟨x0, x1, x2, x3, x4, x5, x6, x7, x8, x9, x10, x11, x12⟩ := cellsK13 HO1.out
 go_wp2_with fail
 refine (HC.out _ HB1.out).mono ?_
 rintro e w2 ⟨rfl, hb⟩
 clear x0 x1 x2 x3 x4 x5 x6 x7 x8 x9 x10 x11 x12
 have HB2 := Aside0.mk (below_step HB1.out hb)
 have HO2 := Aside0.mk ((hb.block bx (blk_lt HO1.out)).trans HO1.out)
 clear hb
 have xa0 : w2.cell? ⟨bx, 0, none⟩ = some (.slice A0 P.length c0) := (blk_cell HO2.out 0).trans rfl
 go_wp2_with fail
 refine (is_yes part (P.length : Int) _ HH.out.1 HH.out.2).mono ?_
 rintro e w3 ⟨rfl, hb⟩
 have HB3 := Aside0.mk (below_step HB2.out hb)
 clear hb
 go_wp2_with fail
 go_ret
 exact ⟨rfl, HB3.out⟩
end Go.Proofs.YtkhlndhleiaokaaDoor.MHo
namespace Go.Proofs.YtkhlndhleiaokaaDoor.MHo
open Go.RowKit Go.Proofs.YtkhlndhleiaokaaDoorW.PrintWords Go.Proofs.YtkhlndhleiaokaaDoorW.PrintLast Go.Proofs.YtkhlndhleiaokaaDoorW.PrintMore
attribute [local go_sem] mp_u32s mp_u32m mp_u8s mp_u8m max2_int min2_int max_two min_two max_three min_three max_four min_four
set_option linter.unusedVariables false
set_option linter.unusedSimpArgs false
def drumlineref5_Good.f (l0_0 : List S60) (l0_1 : List S37) (a0_2 a0_3 a0_4 a0_5 a0_6 a0_7 a0_8 a0_9 a0_10 a0_11 a0_12 : Int) (a1 : Int) : Option Bool := if netB l0_0 l0_1 = true ∧ 0 ≤ a1 ∧ a1 < (l0_0.length : Int) then (drumlineref5_dists.f 100 l0_0 l0_1 a0_2 a0_3 a0_4 a0_5 a0_6 a0_7 a0_8 a0_9 a0_10 a0_11 a0_12 0).bind fun d => if d.length ≤ 6 ∧ d.all (fun x => decide (0 ≤ x)) = true then some true else none else none
theorem drumlineref5_Good.calls (A0_0 : Option Addr) (c0_0 : Nat) (l0_0 : List S60) (A0_1 : Option Addr) (c0_1 : Nat) (l0_1 : List S37) (a0_2 a0_3 a0_4 a0_5 a0_6 a0_7 a0_8 a0_9 a0_10 a0_11 a0_12 : Int) (a1 : Int) (r : Bool) (w : World) (hr0_0 : Kd.C k60 w A0_0 l0_0.length l0_0) (hc0_0 : l0_0.length ≤ c0_0) (hr0_1 : Kd.C k37 w A0_1 l0_1.length l0_1) (hc0_1 : l0_1.length ≤ c0_1) (h : drumlineref5_Good.f l0_0 l0_1 a0_2 a0_3 a0_4 a0_5 a0_6 a0_7 a0_8 a0_9 a0_10 a0_11 a0_12 a1 = some r) :
  Calls Tryd.prog 33 #[.agg #[.slice A0_0 l0_0.length c0_0, .slice A0_1 l0_1.length c0_1, .int .i64 a0_2, .int .i64 a0_3, .int .i64 a0_4, .int .i64 a0_5, .int .i64 a0_6, .int .i64 a0_7, .int .i64 a0_8, .int .i64 a0_9, .int .i64 a0_10, .int .i64 a0_11, .int .i64 a0_12], .int .i64 a1] w fun e w' => e = .returned (.bool r) ∧ Below w.heap.size w w' := by
 unfold drumlineref5_Good.f at h
 split at h
 ·rename_i hn
  obtain ⟨hn1, hn2, hn3⟩ := hn
  obtain ⟨d, hd, h⟩ := Option.bind_eq_some_iff.mp h
  split at h
  ·rename_i he
   injection h with h
   subst h
   exact good_yes A0_0 c0_0 l0_0 A0_1 c0_1 l0_1 a0_2 a0_3 a0_4 a0_5 a0_6 a0_7 a0_8 a0_9 a0_10 a0_11 a0_12 a1 d w hr0_0 hc0_0 hr0_1 hc0_1 (netB_ok hn1) hd (fun x hx => of_decide_eq_true (List.all_eq_true.mp he.2 x hx)) he.1 hn2 hn3
  ·cases h
 ·cases h
def drumlineref5_Dist.f (k : Nat) (l0_0 : List (S60)) (l0_1 : List (S37)) (a0_2 : Int) (a0_3 : Int) (a0_4 : Int) (a0_5 : Int) (a0_6 : Int) (a0_7 : Int) (a0_8 : Int) (a0_9 : Int) (a0_10 : Int) (a0_11 : Int) (a0_12 : Int) (a1 : Int) (a2 : Int) : Option (Int) := (drumlineref5_Good.f l0_0 l0_1 a0_2 a0_3 a0_4 a0_5 a0_6 a0_7 a0_8 a0_9 a0_10 a0_11 a0_12 a1).bind fun t258 => (if t258 = true then ((drumlineref5_Good.f l0_0 l0_1 a0_2 a0_3 a0_4 a0_5 a0_6 a0_7 a0_8 a0_9 a0_10 a0_11 a0_12 a2).bind fun t259 => (if t259 = true then ((drumlineref5_dists.f k l0_0 l0_1 a0_2 a0_3 a0_4 a0_5 a0_6 a0_7 a0_8 a0_9 a0_10 a0_11 a0_12 a1).bind fun t260 => (if 0 ≤ a2 then (if a2 < (t260.length : Int) then (some (rd t260 a2)) else (none)) else (none))) else (some (-1)))) else (some (-1)))
theorem drumlineref5_Dist.mono : ∀ a0 a1 a2 a3 a4 a5 a6 a7 a8 a9 a10 a11 a12 a13 a14 k, LeO (drumlineref5_Dist.f k a0 a1 a2 a3 a4 a5 a6 a7 a8 a9 a10 a11 a12 a13 a14) (drumlineref5_Dist.f (k + 1) a0 a1 a2 a3 a4 a5 a6 a7 a8 a9 a10 a11 a12 a13 a14) := by
 intro a0 a1 a2 a3 a4 a5 a6 a7 a8 a9 a10 a11 a12 a13 a14 k
 unfold drumlineref5_Dist.f
 repeat' first
   | (with_reducible exact drumlineref5_dists.mono _ _ _ _ _ _ _ _ _ _ _ _ _ _ _)
   | (with_reducible exact LeO.refl _)
   | (with_reducible exact LeO.none _)
   | (with_reducible refine LeO.ite ?_ ?_)
   | (with_reducible refine LeO.bind ?_ (fun _ => ?_))
   | exact drumlineref5_dists.mono _ _ _ _ _ _ _ _ _ _ _ _ _ _ _
   | exact LeO.none _
   | refine LeO.ite ?_ ?_
   | refine LeO.bind ?_ (fun _ => ?_)
set_option maxHeartbeats 8000000 in
set_option maxRecDepth 100000 in
theorem drumlineref5_Dist.calls (k : Nat) (A0_0 : Option Addr) (c0_0 : Nat) (l0_0 : List (S60)) (A0_1 : Option Addr) (c0_1 : Nat) (l0_1 : List (S37)) (a0_2 : Int) (a0_3 : Int) (a0_4 : Int) (a0_5 : Int) (a0_6 : Int) (a0_7 : Int) (a0_8 : Int) (a0_9 : Int) (a0_10 : Int) (a0_11 : Int) (a0_12 : Int) (a1 : Int) (a2 : Int) (r : Int) (w : World) (hr0_0 : Kd.C k60 w A0_0 l0_0.length l0_0) (hc0_0 : l0_0.length ≤ c0_0) (hr0_1 : Kd.C k37 w A0_1 l0_1.length l0_1) (hc0_1 : l0_1.length ≤ c0_1) (h : drumlineref5_Dist.f k l0_0 l0_1 a0_2 a0_3 a0_4 a0_5 a0_6 a0_7 a0_8 a0_9 a0_10 a0_11 a0_12 a1 a2 = some r) :
  Calls Tryd.prog 12 #[.agg #[.slice A0_0 l0_0.length c0_0, .slice A0_1 l0_1.length c0_1, .int .i64 a0_2, .int .i64 a0_3, .int .i64 a0_4, .int .i64 a0_5, .int .i64 a0_6, .int .i64 a0_7, .int .i64 a0_8, .int .i64 a0_9, .int .i64 a0_10, .int .i64 a0_11, .int .i64 a0_12], .int .i64 a1, .int .i64 a2] w fun e w' => e = .returned (.int .i64 r) ∧ Below w.heap.size w w' := by
 have hu25 := Tryd.underlying25
 have HR0_0 := Aside0.mk hr0_0
 have HC0_0 := Aside0.mk hc0_0
 clear hr0_0 hc0_0
 have HR0_1 := Aside0.mk hr0_1
 have HC0_1 := Aside0.mk hc0_1
 clear hr0_1 hc0_1
 have HB := Aside0.mk (Below.refl w.heap.size w)
 have H : ((drumlineref5_Good.f l0_0 l0_1 a0_2 a0_3 a0_4 a0_5 a0_6 a0_7 a0_8 a0_9 a0_10 a0_11 a0_12 a1).bind fun t258 => (if t258 = true then ((drumlineref5_Good.f l0_0 l0_1 a0_2 a0_3 a0_4 a0_5 a0_6 a0_7 a0_8 a0_9 a0_10 a0_11 a0_12 a2).bind fun t259 => (if t259 = true then ((drumlineref5_dists.f k l0_0 l0_1 a0_2 a0_3 a0_4 a0_5 a0_6 a0_7 a0_8 a0_9 a0_10 a0_11 a0_12 a1).bind fun t260 => (if 0 ≤ a2 then (if a2 < (t260.length : Int) then (some (rd t260 a2)) else (none)) else (none))) else (some (-1)))) else (some (-1)))) = some r := h
 clear h
 replace H := Option.bind_eq_some_iff.mp H
 obtain ⟨t258, A40, H⟩ := H
 replace H : (if t258 = true then ((drumlineref5_Good.f l0_0 l0_1 a0_2 a0_3 a0_4 a0_5 a0_6 a0_7 a0_8 a0_9 a0_10 a0_11 a0_12 a2).bind fun t259 => (if t259 = true then ((drumlineref5_dists.f k l0_0 l0_1 a0_2 a0_3 a0_4 a0_5 a0_6 a0_7 a0_8 a0_9 a0_10 a0_11 a0_12 a1).bind fun t260 => (if 0 ≤ a2 then (if a2 < (t260.length : Int) then (some (rd t260 a2)) else (none)) else (none))) else (some (-1)))) else (some (-1))) = some r := H
 have A4 := Aside0.mk A40
 clear A40
 by_cases c5 : t258 = true
 ·subst c5
  have H1 : ((drumlineref5_Good.f l0_0 l0_1 a0_2 a0_3 a0_4 a0_5 a0_6 a0_7 a0_8 a0_9 a0_10 a0_11 a0_12 a2).bind fun t259 => (if t259 = true then ((drumlineref5_dists.f k l0_0 l0_1 a0_2 a0_3 a0_4 a0_5 a0_6 a0_7 a0_8 a0_9 a0_10 a0_11 a0_12 a1).bind fun t260 => (if 0 ≤ a2 then (if a2 < (t260.length : Int) then (some (rd t260 a2)) else (none)) else (none))) else (some (-1)))) = some r := by rw [if_pos rfl] at H; exact H
  clear H
  have H := H1
  clear H1
  replace H := Option.bind_eq_some_iff.mp H
  obtain ⟨t259, A60, H⟩ := H
  replace H : (if t259 = true then ((drumlineref5_dists.f k l0_0 l0_1 a0_2 a0_3 a0_4 a0_5 a0_6 a0_7 a0_8 a0_9 a0_10 a0_11 a0_12 a1).bind fun t260 => (if 0 ≤ a2 then (if a2 < (t260.length : Int) then (some (rd t260 a2)) else (none)) else (none))) else (some (-1))) = some r := H
  have A6 := Aside0.mk A60
  clear A60
  by_cases c7 : t259 = true
  ·subst c7
   have H1 : ((drumlineref5_dists.f k l0_0 l0_1 a0_2 a0_3 a0_4 a0_5 a0_6 a0_7 a0_8 a0_9 a0_10 a0_11 a0_12 a1).bind fun t260 => (if 0 ≤ a2 then (if a2 < (t260.length : Int) then (some (rd t260 a2)) else (none)) else (none))) = some r := by rw [if_pos rfl] at H; exact H
   clear H
   have H := H1
   clear H1
   replace H := Option.bind_eq_some_iff.mp H
   obtain ⟨t260, A80, H⟩ := H
   replace H : (if 0 ≤ a2 then (if a2 < (t260.length : Int) then (some (rd t260 a2)) else (none)) else (none)) = some r := H
   have A8 := Aside0.mk A80
   clear A80
   by_cases c9 : 0 ≤ a2
   ·rw [if_pos c9] at H
    have c9b0 : decide (0 ≤ a2) = true := decide_eq_true c9
    clear c9
    by_cases c10 : a2 < (t260.length : Int)
    ·rw [if_pos c10] at H
     have c10b0 : decide (a2 < (t260.length : Int)) = true := decide_eq_true c10
     clear c10
     obtain rfl := Option.some.inj H
     go_enter Tryd.func12, Tryd.ntmps12
     go_wp2_with (first | ((with_reducible refine gate_dst (N := 3) rfl ?_); refine box_event ?hg (N := 3) ?hd (cs := #[.slice A0_0 l0_0.length c0_0, .slice A0_1 l0_1.length c0_1, .int .i64 a0_2, .int .i64 a0_3, .int .i64 a0_4, .int .i64 a0_5, .int .i64 a0_6, .int .i64 a0_7, .int .i64 a0_8, .int .i64 a0_9, .int .i64 a0_10, .int .i64 a0_11, .int .i64 a0_12]) (t := 25) ?hr ?_; (case hd => rfl); (case hg => rfl); (case hr => first | (go_simp; done) | (go_simp; rfl)); intro gb257 hg w11 hbox hb; have n0_ := Aside0.mk (below_step (by repeat (first | (with_reducible first | exact HB.out | apply below_alloc | apply pw_below_drewN | apply below_drew1) | exact HB.out)) hb); have n1_ := Aside0.mk (hbox); have n2_ := Aside0.mk ((by rw [hg]; exact (below_size (by repeat (first | (with_reducible first | exact HB.out | apply below_alloc | apply pw_below_drewN | apply below_drew1) | exact HB.out))) : w.heap.size ≤ gb257)); have n3_ := Aside0.mk ((by rw [hg]; exact (below_size (by repeat (first | (with_reducible first | exact HB.out | apply below_alloc | apply pw_below_drewN | apply below_drew1) | exact HB.out))) : w.heap.size ≤ gb257)); clear HB; have HB := n0_; have BK257 := n1_; have GW257 := n2_; have GE257 := n3_; clear n0_ n1_ n2_ n3_; clear hb hbox hg; obtain ⟨hcz12_0, hcz12_1, hcz12_2, hcz12_3, hcz12_4, hcz12_5, hcz12_6, hcz12_7, hcz12_8, hcz12_9, hcz12_10, hcz12_11, hcz12_12⟩ := cellsK13 BK257.out; obtain ⟨hfz12_0, hfz12_1, hfz12_2, hfz12_3, hfz12_4, hfz12_5, hfz12_6, hfz12_7, hfz12_8, hfz12_9, hfz12_10, hfz12_11, hfz12_12⟩ := frozK13 BK257.out) | ((with_reducible refine gate_callee (f := 33) rfl ?_); refine goesL_ (some 9) rfl rfl Tryd.func33 (by kernel_rfl) rfl #[.agg #[.slice A0_0 l0_0.length c0_0, .slice A0_1 l0_1.length c0_1, .int .i64 a0_2, .int .i64 a0_3, .int .i64 a0_4, .int .i64 a0_5, .int .i64 a0_6, .int .i64 a0_7, .int .i64 a0_8, .int .i64 a0_9, .int .i64 a0_10, .int .i64 a0_11, .int .i64 a0_12], .int .i64 a1] rfl (by (try simp only [List.map_toArray, List.map_cons, List.map_nil]); first | done | rfl | (simp only [List.length_drop, List.length_take]; rfl)) ?_; (with_reducible refine (drumlineref5_Good.calls _ _ l0_0 _ _ l0_1 a0_2 a0_3 a0_4 a0_5 a0_6 a0_7 a0_8 a0_9 a0_10 a0_11 a0_12 a1 true _ ?side1 ?side2 ?side3 ?side4 A4.out).mono ?_); (case side1 => repeat (first | exact (Kd.C_below HR0_0.out HB.out) | (with_reducible refine Kd.C_alloc ?_ _) | (with_reducible refine Kd.C_drewN ?_ _) | (with_reducible refine Kd.C_drew ?_))); (case side2 => exact HC0_0.out); (case side3 => repeat (first | exact (Kd.C_below HR0_1.out HB.out) | (with_reducible refine Kd.C_alloc ?_ _) | (with_reducible refine Kd.C_drewN ?_ _) | (with_reducible refine Kd.C_drew ?_))); (case side4 => exact HC0_1.out); rintro e w13 ⟨rfl, hb⟩; refine ⟨_, rfl, ?_⟩; have n0_ := Aside0.mk (blk_below (g := gb257) (o := .cells #[.slice A0_0 l0_0.length c0_0, .slice A0_1 l0_1.length c0_1, .int .i64 a0_2, .int .i64 a0_3, .int .i64 a0_4, .int .i64 a0_5, .int .i64 a0_6, .int .i64 a0_7, .int .i64 a0_8, .int .i64 a0_9, .int .i64 a0_10, .int .i64 a0_11, .int .i64 a0_12] 25 (0, 0)) (by (with_reducible repeat (first | refine blk_drewN ?_ _ | refine blk_drew ?_ | refine blk_alloc ?_ _)); exact BK257.out) hb); have n1_ := Aside0.mk (below_step (by repeat (first | (with_reducible first | exact HB.out | apply below_alloc | apply pw_below_drewN | apply below_drew1 | refine below_set ?_ GE257.out) | exact HB.out)) hb); clear BK257; clear HB; have BK257 := n0_; have HB := n1_; clear n0_ n1_; (try clear hb); (try clear hb2); (try clear hk); (try clear hi); obtain ⟨hcz14_0, hcz14_1, hcz14_2, hcz14_3, hcz14_4, hcz14_5, hcz14_6, hcz14_7, hcz14_8, hcz14_9, hcz14_10, hcz14_11, hcz14_12⟩ := cellsK13 BK257.out; obtain ⟨hfz14_0, hfz14_1, hfz14_2, hfz14_3, hfz14_4, hfz14_5, hfz14_6, hfz14_7, hfz14_8, hfz14_9, hfz14_10, hfz14_11, hfz14_12⟩ := frozK13 BK257.out) | (go_at_call 33; (with_reducible refine (drumlineref5_Good.calls _ _ l0_0 _ _ l0_1 a0_2 a0_3 a0_4 a0_5 a0_6 a0_7 a0_8 a0_9 a0_10 a0_11 a0_12 a2 true _ ?side1 ?side2 ?side3 ?side4 A6.out).mono ?_); (case side1 => repeat (first | exact (Kd.C_below HR0_0.out HB.out) | (with_reducible refine Kd.C_alloc ?_ _) | (with_reducible refine Kd.C_drewN ?_ _) | (with_reducible refine Kd.C_drew ?_))); (case side2 => exact HC0_0.out); (case side3 => repeat (first | exact (Kd.C_below HR0_1.out HB.out) | (with_reducible refine Kd.C_alloc ?_ _) | (with_reducible refine Kd.C_drewN ?_ _) | (with_reducible refine Kd.C_drew ?_))); (case side4 => exact HC0_1.out); rintro e w15 ⟨rfl, hb⟩; have n0_ := Aside0.mk (blk_below (g := gb257) (o := .cells #[.slice A0_0 l0_0.length c0_0, .slice A0_1 l0_1.length c0_1, .int .i64 a0_2, .int .i64 a0_3, .int .i64 a0_4, .int .i64 a0_5, .int .i64 a0_6, .int .i64 a0_7, .int .i64 a0_8, .int .i64 a0_9, .int .i64 a0_10, .int .i64 a0_11, .int .i64 a0_12] 25 (0, 0)) (by (with_reducible repeat (first | refine blk_drewN ?_ _ | refine blk_drew ?_ | refine blk_alloc ?_ _)); exact BK257.out) hb); have n1_ := Aside0.mk (below_step (by repeat (first | (with_reducible first | exact HB.out | apply below_alloc | apply pw_below_drewN | apply below_drew1 | refine below_set ?_ GE257.out) | exact HB.out)) hb); clear BK257; clear HB; have BK257 := n0_; have HB := n1_; clear n0_ n1_; (try clear hb); (try clear hb2); (try clear hk); (try clear hi); obtain ⟨hcz16_0, hcz16_1, hcz16_2, hcz16_3, hcz16_4, hcz16_5, hcz16_6, hcz16_7, hcz16_8, hcz16_9, hcz16_10, hcz16_11, hcz16_12⟩ := cellsK13 BK257.out; obtain ⟨hfz16_0, hfz16_1, hfz16_2, hfz16_3, hfz16_4, hfz16_5, hfz16_6, hfz16_7, hfz16_8, hfz16_9, hfz16_10, hfz16_11, hfz16_12⟩ := frozK13 BK257.out) | ((with_reducible refine gate_callee (f := 34) rfl ?_); refine goesL_ (some 19) rfl rfl Tryd.func34 (by kernel_rfl) rfl #[.agg #[.slice A0_0 l0_0.length c0_0, .slice A0_1 l0_1.length c0_1, .int .i64 a0_2, .int .i64 a0_3, .int .i64 a0_4, .int .i64 a0_5, .int .i64 a0_6, .int .i64 a0_7, .int .i64 a0_8, .int .i64 a0_9, .int .i64 a0_10, .int .i64 a0_11, .int .i64 a0_12], .int .i64 a1] rfl (by (try simp only [List.map_toArray, List.map_cons, List.map_nil]); first | done | rfl | (simp only [List.length_drop, List.length_take]; rfl)) ?_; (with_reducible refine (drumlineref5_dists.calls k _ _ l0_0 _ _ l0_1 a0_2 a0_3 a0_4 a0_5 a0_6 a0_7 a0_8 a0_9 a0_10 a0_11 a0_12 a1 t260 _ ?side1 ?side2 ?side3 ?side4 A8.out).mono ?_); (case side1 => repeat (first | exact (Kd.C_below HR0_0.out HB.out) | (with_reducible refine Kd.C_alloc ?_ _) | (with_reducible refine Kd.C_drewN ?_ _) | (with_reducible refine Kd.C_drew ?_))); (case side2 => exact HC0_0.out); (case side3 => repeat (first | exact (Kd.C_below HR0_1.out HB.out) | (with_reducible refine Kd.C_alloc ?_ _) | (with_reducible refine Kd.C_drewN ?_ _) | (with_reducible refine Kd.C_drew ?_))); (case side4 => exact HC0_1.out); rintro e w17 ⟨v261, rfl, ho0, hb⟩; refine ⟨_, rfl, ?_⟩; have n0_ := Aside0.mk (Kd.R_lower ho0 (below_size (by repeat (first | (with_reducible first | exact HB.out | apply below_alloc | apply pw_below_drewN | apply below_drew1 | refine below_set ?_ GE257.out) | exact HB.out)))); have n1_ := Aside0.mk (blk_below (g := gb257) (o := .cells #[.slice A0_0 l0_0.length c0_0, .slice A0_1 l0_1.length c0_1, .int .i64 a0_2, .int .i64 a0_3, .int .i64 a0_4, .int .i64 a0_5, .int .i64 a0_6, .int .i64 a0_7, .int .i64 a0_8, .int .i64 a0_9, .int .i64 a0_10, .int .i64 a0_11, .int .i64 a0_12] 25 (0, 0)) (by (with_reducible repeat (first | refine blk_drewN ?_ _ | refine blk_drew ?_ | refine blk_alloc ?_ _)); exact BK257.out) hb); have n2_ := Aside0.mk (below_step (by repeat (first | (with_reducible first | exact HB.out | apply below_alloc | apply pw_below_drewN | apply below_drew1 | refine below_set ?_ GE257.out) | exact HB.out)) hb); clear BK257; clear HB; have HO262 := n0_; have BK257 := n1_; have HB := n2_; clear n0_ n1_ n2_; (try clear hb); (try clear hb2); (try clear hk); (try clear hi); (try clear ho0); obtain ⟨Ao18, co18, eo18⟩ := Kd.R_slice HO262.out; subst eo18; have p263 : 0 ≤ (a2 : Int) := of_decide_eq_true (by first | (with_reducible assumption) | assumption); have q263 : a2 < (t260.length : Int) := of_decide_eq_true (by first | (with_reducible assumption) | assumption); obtain ⟨ad263, e263, hx263_0⟩ := Kd.at_int (Kd.R_reads' HO262.out).2.2 a2 p263 q263; cases e263; replace p263 := eq_true p263; replace q263 := eq_true q263))
     go_ret
     exact ⟨by first | rfl | (simp [errW_none, errW_some] <;> rfl) | (simp [*, errW_none, errW_some] <;> rfl), by repeat (first | (with_reducible first | exact HB.out | apply below_alloc | apply pw_below_drewN | apply below_drew1 | refine below_set ?_ GE257.out) | exact HB.out)⟩
    ·rw [if_neg c10] at H
     exact absurd H (by simp)
   ·rw [if_neg c9] at H
    exact absurd H (by simp)
  ·replace c7 := Bool.eq_false_iff.mpr c7
   subst c7
   have H1 : (some (-1)) = some r := by rw [if_neg (show ¬ (false = true) by decide)] at H; exact H
   clear H
   have H := H1
   clear H1
   obtain rfl := Option.some.inj H
   go_enter Tryd.func12, Tryd.ntmps12
   go_wp2_with (first | ((with_reducible refine gate_dst (N := 3) rfl ?_); refine box_event ?hg (N := 3) ?hd (cs := #[.slice A0_0 l0_0.length c0_0, .slice A0_1 l0_1.length c0_1, .int .i64 a0_2, .int .i64 a0_3, .int .i64 a0_4, .int .i64 a0_5, .int .i64 a0_6, .int .i64 a0_7, .int .i64 a0_8, .int .i64 a0_9, .int .i64 a0_10, .int .i64 a0_11, .int .i64 a0_12]) (t := 25) ?hr ?_; (case hd => rfl); (case hg => rfl); (case hr => first | (go_simp; done) | (go_simp; rfl)); intro gb257 hg w19 hbox hb; have n0_ := Aside0.mk (below_step (by repeat (first | (with_reducible first | exact HB.out | apply below_alloc | apply pw_below_drewN | apply below_drew1) | exact HB.out)) hb); have n1_ := Aside0.mk (hbox); have n2_ := Aside0.mk ((by rw [hg]; exact (below_size (by repeat (first | (with_reducible first | exact HB.out | apply below_alloc | apply pw_below_drewN | apply below_drew1) | exact HB.out))) : w.heap.size ≤ gb257)); have n3_ := Aside0.mk ((by rw [hg]; exact (below_size (by repeat (first | (with_reducible first | exact HB.out | apply below_alloc | apply pw_below_drewN | apply below_drew1) | exact HB.out))) : w.heap.size ≤ gb257)); clear HB; have HB := n0_; have BK257 := n1_; have GW257 := n2_; have GE257 := n3_; clear n0_ n1_ n2_ n3_; clear hb hbox hg; obtain ⟨hcz20_0, hcz20_1, hcz20_2, hcz20_3, hcz20_4, hcz20_5, hcz20_6, hcz20_7, hcz20_8, hcz20_9, hcz20_10, hcz20_11, hcz20_12⟩ := cellsK13 BK257.out; obtain ⟨hfz20_0, hfz20_1, hfz20_2, hfz20_3, hfz20_4, hfz20_5, hfz20_6, hfz20_7, hfz20_8, hfz20_9, hfz20_10, hfz20_11, hfz20_12⟩ := frozK13 BK257.out) | ((with_reducible refine gate_callee (f := 33) rfl ?_); refine goesL_ (some 9) rfl rfl Tryd.func33 (by kernel_rfl) rfl #[.agg #[.slice A0_0 l0_0.length c0_0, .slice A0_1 l0_1.length c0_1, .int .i64 a0_2, .int .i64 a0_3, .int .i64 a0_4, .int .i64 a0_5, .int .i64 a0_6, .int .i64 a0_7, .int .i64 a0_8, .int .i64 a0_9, .int .i64 a0_10, .int .i64 a0_11, .int .i64 a0_12], .int .i64 a1] rfl (by (try simp only [List.map_toArray, List.map_cons, List.map_nil]); first | done | rfl | (simp only [List.length_drop, List.length_take]; rfl)) ?_; (with_reducible refine (drumlineref5_Good.calls _ _ l0_0 _ _ l0_1 a0_2 a0_3 a0_4 a0_5 a0_6 a0_7 a0_8 a0_9 a0_10 a0_11 a0_12 a1 true _ ?side1 ?side2 ?side3 ?side4 A4.out).mono ?_); (case side1 => repeat (first | exact (Kd.C_below HR0_0.out HB.out) | (with_reducible refine Kd.C_alloc ?_ _) | (with_reducible refine Kd.C_drewN ?_ _) | (with_reducible refine Kd.C_drew ?_))); (case side2 => exact HC0_0.out); (case side3 => repeat (first | exact (Kd.C_below HR0_1.out HB.out) | (with_reducible refine Kd.C_alloc ?_ _) | (with_reducible refine Kd.C_drewN ?_ _) | (with_reducible refine Kd.C_drew ?_))); (case side4 => exact HC0_1.out); rintro e w21 ⟨rfl, hb⟩; refine ⟨_, rfl, ?_⟩; have n0_ := Aside0.mk (blk_below (g := gb257) (o := .cells #[.slice A0_0 l0_0.length c0_0, .slice A0_1 l0_1.length c0_1, .int .i64 a0_2, .int .i64 a0_3, .int .i64 a0_4, .int .i64 a0_5, .int .i64 a0_6, .int .i64 a0_7, .int .i64 a0_8, .int .i64 a0_9, .int .i64 a0_10, .int .i64 a0_11, .int .i64 a0_12] 25 (0, 0)) (by (with_reducible repeat (first | refine blk_drewN ?_ _ | refine blk_drew ?_ | refine blk_alloc ?_ _)); exact BK257.out) hb); have n1_ := Aside0.mk (below_step (by repeat (first | (with_reducible first | exact HB.out | apply below_alloc | apply pw_below_drewN | apply below_drew1 | refine below_set ?_ GE257.out) | exact HB.out)) hb); clear BK257; clear HB; have BK257 := n0_; have HB := n1_; clear n0_ n1_; (try clear hb); (try clear hb2); (try clear hk); (try clear hi); obtain ⟨hcz22_0, hcz22_1, hcz22_2, hcz22_3, hcz22_4, hcz22_5, hcz22_6, hcz22_7, hcz22_8, hcz22_9, hcz22_10, hcz22_11, hcz22_12⟩ := cellsK13 BK257.out; obtain ⟨hfz22_0, hfz22_1, hfz22_2, hfz22_3, hfz22_4, hfz22_5, hfz22_6, hfz22_7, hfz22_8, hfz22_9, hfz22_10, hfz22_11, hfz22_12⟩ := frozK13 BK257.out) | (go_at_call 33; (with_reducible refine (drumlineref5_Good.calls _ _ l0_0 _ _ l0_1 a0_2 a0_3 a0_4 a0_5 a0_6 a0_7 a0_8 a0_9 a0_10 a0_11 a0_12 a2 false _ ?side1 ?side2 ?side3 ?side4 A6.out).mono ?_); (case side1 => repeat (first | exact (Kd.C_below HR0_0.out HB.out) | (with_reducible refine Kd.C_alloc ?_ _) | (with_reducible refine Kd.C_drewN ?_ _) | (with_reducible refine Kd.C_drew ?_))); (case side2 => exact HC0_0.out); (case side3 => repeat (first | exact (Kd.C_below HR0_1.out HB.out) | (with_reducible refine Kd.C_alloc ?_ _) | (with_reducible refine Kd.C_drewN ?_ _) | (with_reducible refine Kd.C_drew ?_))); (case side4 => exact HC0_1.out); rintro e w23 ⟨rfl, hb⟩; have n0_ := Aside0.mk (blk_below (g := gb257) (o := .cells #[.slice A0_0 l0_0.length c0_0, .slice A0_1 l0_1.length c0_1, .int .i64 a0_2, .int .i64 a0_3, .int .i64 a0_4, .int .i64 a0_5, .int .i64 a0_6, .int .i64 a0_7, .int .i64 a0_8, .int .i64 a0_9, .int .i64 a0_10, .int .i64 a0_11, .int .i64 a0_12] 25 (0, 0)) (by (with_reducible repeat (first | refine blk_drewN ?_ _ | refine blk_drew ?_ | refine blk_alloc ?_ _)); exact BK257.out) hb); have n1_ := Aside0.mk (below_step (by repeat (first | (with_reducible first | exact HB.out | apply below_alloc | apply pw_below_drewN | apply below_drew1 | refine below_set ?_ GE257.out) | exact HB.out)) hb); clear BK257; clear HB; have BK257 := n0_; have HB := n1_; clear n0_ n1_; (try clear hb); (try clear hb2); (try clear hk); (try clear hi)))
   go_ret
   exact ⟨by first | rfl | (simp [errW_none, errW_some] <;> rfl) | (simp [*, errW_none, errW_some] <;> rfl), by repeat (first | (with_reducible first | exact HB.out | apply below_alloc | apply pw_below_drewN | apply below_drew1 | refine below_set ?_ GE257.out) | exact HB.out)⟩
 ·replace c5 := Bool.eq_false_iff.mpr c5
  subst c5
  have H1 : (some (-1)) = some r := by rw [if_neg (show ¬ (false = true) by decide)] at H; exact H
  clear H
  have H := H1
  clear H1
  obtain rfl := Option.some.inj H
  go_enter Tryd.func12, Tryd.ntmps12
  go_wp2_with (first | ((with_reducible refine gate_dst (N := 3) rfl ?_); refine box_event ?hg (N := 3) ?hd (cs := #[.slice A0_0 l0_0.length c0_0, .slice A0_1 l0_1.length c0_1, .int .i64 a0_2, .int .i64 a0_3, .int .i64 a0_4, .int .i64 a0_5, .int .i64 a0_6, .int .i64 a0_7, .int .i64 a0_8, .int .i64 a0_9, .int .i64 a0_10, .int .i64 a0_11, .int .i64 a0_12]) (t := 25) ?hr ?_; (case hd => rfl); (case hg => rfl); (case hr => first | (go_simp; done) | (go_simp; rfl)); intro gb257 hg w24 hbox hb; have n0_ := Aside0.mk (below_step (by repeat (first | (with_reducible first | exact HB.out | apply below_alloc | apply pw_below_drewN | apply below_drew1) | exact HB.out)) hb); have n1_ := Aside0.mk (hbox); have n2_ := Aside0.mk ((by rw [hg]; exact (below_size (by repeat (first | (with_reducible first | exact HB.out | apply below_alloc | apply pw_below_drewN | apply below_drew1) | exact HB.out))) : w.heap.size ≤ gb257)); have n3_ := Aside0.mk ((by rw [hg]; exact (below_size (by repeat (first | (with_reducible first | exact HB.out | apply below_alloc | apply pw_below_drewN | apply below_drew1) | exact HB.out))) : w.heap.size ≤ gb257)); clear HB; have HB := n0_; have BK257 := n1_; have GW257 := n2_; have GE257 := n3_; clear n0_ n1_ n2_ n3_; clear hb hbox hg; obtain ⟨hcz25_0, hcz25_1, hcz25_2, hcz25_3, hcz25_4, hcz25_5, hcz25_6, hcz25_7, hcz25_8, hcz25_9, hcz25_10, hcz25_11, hcz25_12⟩ := cellsK13 BK257.out; obtain ⟨hfz25_0, hfz25_1, hfz25_2, hfz25_3, hfz25_4, hfz25_5, hfz25_6, hfz25_7, hfz25_8, hfz25_9, hfz25_10, hfz25_11, hfz25_12⟩ := frozK13 BK257.out) | ((with_reducible refine gate_callee (f := 33) rfl ?_); refine goesL_ (some 9) rfl rfl Tryd.func33 (by kernel_rfl) rfl #[.agg #[.slice A0_0 l0_0.length c0_0, .slice A0_1 l0_1.length c0_1, .int .i64 a0_2, .int .i64 a0_3, .int .i64 a0_4, .int .i64 a0_5, .int .i64 a0_6, .int .i64 a0_7, .int .i64 a0_8, .int .i64 a0_9, .int .i64 a0_10, .int .i64 a0_11, .int .i64 a0_12], .int .i64 a1] rfl (by (try simp only [List.map_toArray, List.map_cons, List.map_nil]); first | done | rfl | (simp only [List.length_drop, List.length_take]; rfl)) ?_; (with_reducible refine (drumlineref5_Good.calls _ _ l0_0 _ _ l0_1 a0_2 a0_3 a0_4 a0_5 a0_6 a0_7 a0_8 a0_9 a0_10 a0_11 a0_12 a1 false _ ?side1 ?side2 ?side3 ?side4 A4.out).mono ?_); (case side1 => repeat (first | exact (Kd.C_below HR0_0.out HB.out) | (with_reducible refine Kd.C_alloc ?_ _) | (with_reducible refine Kd.C_drewN ?_ _) | (with_reducible refine Kd.C_drew ?_))); (case side2 => exact HC0_0.out); (case side3 => repeat (first | exact (Kd.C_below HR0_1.out HB.out) | (with_reducible refine Kd.C_alloc ?_ _) | (with_reducible refine Kd.C_drewN ?_ _) | (with_reducible refine Kd.C_drew ?_))); (case side4 => exact HC0_1.out); rintro e w26 ⟨rfl, hb⟩; refine ⟨_, rfl, ?_⟩; have n0_ := Aside0.mk (blk_below (g := gb257) (o := .cells #[.slice A0_0 l0_0.length c0_0, .slice A0_1 l0_1.length c0_1, .int .i64 a0_2, .int .i64 a0_3, .int .i64 a0_4, .int .i64 a0_5, .int .i64 a0_6, .int .i64 a0_7, .int .i64 a0_8, .int .i64 a0_9, .int .i64 a0_10, .int .i64 a0_11, .int .i64 a0_12] 25 (0, 0)) (by (with_reducible repeat (first | refine blk_drewN ?_ _ | refine blk_drew ?_ | refine blk_alloc ?_ _)); exact BK257.out) hb); have n1_ := Aside0.mk (below_step (by repeat (first | (with_reducible first | exact HB.out | apply below_alloc | apply pw_below_drewN | apply below_drew1 | refine below_set ?_ GE257.out) | exact HB.out)) hb); clear BK257; clear HB; have BK257 := n0_; have HB := n1_; clear n0_ n1_; (try clear hb); (try clear hb2); (try clear hk); (try clear hi)))
  go_ret
  exact ⟨by first | rfl | (simp [errW_none, errW_some] <;> rfl) | (simp [*, errW_none, errW_some] <;> rfl), by repeat (first | (with_reducible first | exact HB.out | apply below_alloc | apply pw_below_drewN | apply below_drew1 | refine below_set ?_ GE257.out) | exact HB.out)⟩
def drumlineref5_other.f (a0_0 : Int) (a0_1 : Int) (a0_2 : Int) (a0_3 : Int) (a0_4 : Int) (a0_5 : Int) (a1 : Int) : Option (Int) := if a0_0 = a1 then (some a0_1) else (if a0_1 = a1 then (some a0_0) else (some (-1)))
set_option maxHeartbeats 8000000 in
set_option maxRecDepth 100000 in
theorem drumlineref5_other.calls (a0_0 : Int) (a0_1 : Int) (a0_2 : Int) (a0_3 : Int) (a0_4 : Int) (a0_5 : Int) (a1 : Int) (r : Int) (w : World) (h : drumlineref5_other.f a0_0 a0_1 a0_2 a0_3 a0_4 a0_5 a1 = some r) :
  Calls Tryd.prog 36 #[.agg #[.int .i64 a0_0, .int .i64 a0_1, .int .i64 a0_2, .int .i64 a0_3, .int .i64 a0_4, .int .i64 a0_5], .int .i64 a1] w fun e w' => e = .returned (.int .i64 r) ∧ Below w.heap.size w w' := by
 have hu37 := Tryd.underlying37
 have HB := Aside0.mk (Below.refl w.heap.size w)
 have H : (if a0_0 = a1 then (some a0_1) else (if a0_1 = a1 then (some a0_0) else (some (-1)))) = some r := h
 clear h
 by_cases c3 : a0_0 = a1
 ·rw [if_pos c3] at H
  have c3b0 : (a0_0 == a1) = true := beq_iff_eq.mpr c3
  have c3b1 : (a0_0 != a1) = false := bne_eq_false_iff_eq.mpr c3
  clear c3
  obtain rfl := Option.some.inj H
  go_enter Tryd.func36, Tryd.ntmps36
  go_wp2_with (first | ((with_reducible refine gate_dst (N := 2) rfl ?_); refine box_event ?hg (N := 2) ?hd (cs := #[.int .i64 a0_0, .int .i64 a0_1, .int .i64 a0_2, .int .i64 a0_3, .int .i64 a0_4, .int .i64 a0_5]) (t := 37) ?hr ?_; (case hd => rfl); (case hg => rfl); (case hr => first | (go_simp; done) | (go_simp; rfl)); intro gb264 hg w4 hbox hb; have n0_ := Aside0.mk (below_step (by repeat (first | (with_reducible first | exact HB.out | apply below_alloc | apply pw_below_drewN | apply below_drew1) | exact HB.out)) hb); have n1_ := Aside0.mk (hbox); have n2_ := Aside0.mk ((by rw [hg]; exact (below_size (by repeat (first | (with_reducible first | exact HB.out | apply below_alloc | apply pw_below_drewN | apply below_drew1) | exact HB.out))) : w.heap.size ≤ gb264)); have n3_ := Aside0.mk ((by rw [hg]; exact (below_size (by repeat (first | (with_reducible first | exact HB.out | apply below_alloc | apply pw_below_drewN | apply below_drew1) | exact HB.out))) : w.heap.size ≤ gb264)); clear HB; have HB := n0_; have BK264 := n1_; have GW264 := n2_; have GE264 := n3_; clear n0_ n1_ n2_ n3_; clear hb hbox hg; obtain ⟨hcz5_0, hcz5_1, hcz5_2, hcz5_3, hcz5_4, hcz5_5⟩ := cellsK6 BK264.out; obtain ⟨hfz5_0, hfz5_1, hfz5_2, hfz5_3, hfz5_4, hfz5_5⟩ := frozK6 BK264.out))
  go_ret
  exact ⟨by first | rfl | (simp [errW_none, errW_some] <;> rfl) | (simp [*, errW_none, errW_some] <;> rfl), by repeat (first | (with_reducible first | exact HB.out | apply below_alloc | apply pw_below_drewN | apply below_drew1 | refine below_set ?_ GE264.out) | exact HB.out)⟩
 ·rw [if_neg c3] at H
  have c3b0 : (a0_0 == a1) = false := beq_eq_false_iff_ne.mpr c3
  have c3b1 : (a0_0 != a1) = true := bne_iff_ne.mpr c3
  by_cases c6 : a0_1 = a1
  ·rw [if_pos c6] at H
   have c6b0 : (a0_1 == a1) = true := beq_iff_eq.mpr c6
   have c6b1 : (a0_1 != a1) = false := bne_eq_false_iff_eq.mpr c6
   clear c6
   obtain rfl := Option.some.inj H
   go_enter Tryd.func36, Tryd.ntmps36
   go_wp2_with (first | ((with_reducible refine gate_dst (N := 2) rfl ?_); refine box_event ?hg (N := 2) ?hd (cs := #[.int .i64 a0_0, .int .i64 a0_1, .int .i64 a0_2, .int .i64 a0_3, .int .i64 a0_4, .int .i64 a0_5]) (t := 37) ?hr ?_; (case hd => rfl); (case hg => rfl); (case hr => first | (go_simp; done) | (go_simp; rfl)); intro gb264 hg w7 hbox hb; have n0_ := Aside0.mk (below_step (by repeat (first | (with_reducible first | exact HB.out | apply below_alloc | apply pw_below_drewN | apply below_drew1) | exact HB.out)) hb); have n1_ := Aside0.mk (hbox); have n2_ := Aside0.mk ((by rw [hg]; exact (below_size (by repeat (first | (with_reducible first | exact HB.out | apply below_alloc | apply pw_below_drewN | apply below_drew1) | exact HB.out))) : w.heap.size ≤ gb264)); have n3_ := Aside0.mk ((by rw [hg]; exact (below_size (by repeat (first | (with_reducible first | exact HB.out | apply below_alloc | apply pw_below_drewN | apply below_drew1) | exact HB.out))) : w.heap.size ≤ gb264)); clear HB; have HB := n0_; have BK264 := n1_; have GW264 := n2_; have GE264 := n3_; clear n0_ n1_ n2_ n3_; clear hb hbox hg; obtain ⟨hcz8_0, hcz8_1, hcz8_2, hcz8_3, hcz8_4, hcz8_5⟩ := cellsK6 BK264.out; obtain ⟨hfz8_0, hfz8_1, hfz8_2, hfz8_3, hfz8_4, hfz8_5⟩ := frozK6 BK264.out))
   go_ret
   exact ⟨by first | rfl | (simp [errW_none, errW_some] <;> rfl) | (simp [*, errW_none, errW_some] <;> rfl), by repeat (first | (with_reducible first | exact HB.out | apply below_alloc | apply pw_below_drewN | apply below_drew1 | refine below_set ?_ GE264.out) | exact HB.out)⟩
  ·rw [if_neg c6] at H
   have c6b0 : (a0_1 == a1) = false := beq_eq_false_iff_ne.mpr c6
   have c6b1 : (a0_1 != a1) = true := bne_iff_ne.mpr c6
   obtain rfl := Option.some.inj H
   go_enter Tryd.func36, Tryd.ntmps36
   go_wp2_with (first | ((with_reducible refine gate_dst (N := 2) rfl ?_); refine box_event ?hg (N := 2) ?hd (cs := #[.int .i64 a0_0, .int .i64 a0_1, .int .i64 a0_2, .int .i64 a0_3, .int .i64 a0_4, .int .i64 a0_5]) (t := 37) ?hr ?_; (case hd => rfl); (case hg => rfl); (case hr => first | (go_simp; done) | (go_simp; rfl)); intro gb264 hg w9 hbox hb; have n0_ := Aside0.mk (below_step (by repeat (first | (with_reducible first | exact HB.out | apply below_alloc | apply pw_below_drewN | apply below_drew1) | exact HB.out)) hb); have n1_ := Aside0.mk (hbox); have n2_ := Aside0.mk ((by rw [hg]; exact (below_size (by repeat (first | (with_reducible first | exact HB.out | apply below_alloc | apply pw_below_drewN | apply below_drew1) | exact HB.out))) : w.heap.size ≤ gb264)); have n3_ := Aside0.mk ((by rw [hg]; exact (below_size (by repeat (first | (with_reducible first | exact HB.out | apply below_alloc | apply pw_below_drewN | apply below_drew1) | exact HB.out))) : w.heap.size ≤ gb264)); clear HB; have HB := n0_; have BK264 := n1_; have GW264 := n2_; have GE264 := n3_; clear n0_ n1_ n2_ n3_; clear hb hbox hg; obtain ⟨hcz10_0, hcz10_1, hcz10_2, hcz10_3, hcz10_4, hcz10_5⟩ := cellsK6 BK264.out; obtain ⟨hfz10_0, hfz10_1, hfz10_2, hfz10_3, hfz10_4, hfz10_5⟩ := frozK6 BK264.out))
   go_ret
   exact ⟨by first | rfl | (simp [errW_none, errW_some] <;> rfl) | (simp [*, errW_none, errW_some] <;> rfl), by repeat (first | (with_reducible first | exact HB.out | apply below_alloc | apply pw_below_drewN | apply below_drew1 | refine below_set ?_ GE264.out) | exact HB.out)⟩
end Go.Proofs.YtkhlndhleiaokaaDoor.MHo
