/- Texts of this claim, laid together by a program (wip/g/merge5.py): HWn. -/
import Derived.Test.YtbefbhghmommhaaGreatDoorZWd26
import Derived.Test.YtbefbhghmommhaaGreatDoorZWd31
import Derived.Deep.DeepCutAuto
set_option linter.unusedVariables false
set_option linter.unusedSimpArgs false
set_option maxRecDepth 100000
namespace Go.Proofs.YtbefbhghmommhaaGreatDoor.MWo
open Go.RowKit Go.Proofs.YtbefbhghmommhaaGreatDoorW.PrintWords Go.Proofs.YtbefbhghmommhaaGreatDoorW.PrintLast Go.Proofs.YtbefbhghmommhaaGreatDoorW.PrintMore Go.Proofs.YtbefbhghmommhaaGreatDoor.Evl
theorem info37 : (Tryz.prog.info? 37).map (fun i => (i.zero, i.size, i.bytes)) = some (some (.agg #[.slice none 0 0, .bool false, .int .i64 0, .slice none 0 0]), 4, 64) := by kernel_rfl
structure WmI (w W : World) (CC : Array Value) (bC : Nat) (ok : Nat → Prop) (v : Value) (cs : List S37) : Prop where
 n : Kd.N k37 37 W w.heap.size ok v cs
 c : W.heap[bC]? = some (.cells CC 25 (0, 0))
 b : Below w.heap.size w W
 d : bC < w.heap.size
structure CellOk (x : S37) : Prop where
 l : x.f0.length ≤ 1000
 n : ∀ z ∈ x.f0, z.f5.length ≤ 1000
 a : x.f1.f2.length ≤ 1000
section
variable {w W W2 : World} {CC : Array Value} {bC bX : Nat} {ok : Nat → Prop} {v : Value} {cs : List S37}
theorem WmI.step (h : WmI w W CC bC ok v cs) (k : Below W.heap.size W W2) : WmI w W2 CC bC ok v cs := ⟨Kd.N_below h.n k, (k.block bC (blk_lt h.c)).trans h.c, below_step h.b k, h.d⟩
theorem WmI.fresh (h : WmI w W CC bC ok v cs) (ob : Obj) : WmI w (W.alloc ob) CC bC (fun q => q ≠ W.heap.size) v cs :=
 ⟨Kd.N_mono (Kd.N_below (Kd.N_elderB h.n W.heap.size (Nat.le_refl _)) (below_alloc (Below.refl _ _) ob)) (fun _ hq => hq.2), ((below_alloc (Below.refl _ _) ob).block bC (blk_lt h.c)).trans h.c, below_alloc h.b ob, h.d⟩
theorem WmI.put (h : WmI w W CC bC (fun q => q ≠ bX) v cs) (hd : w.heap.size ≤ bX) (i : Nat) (u : Value) : WmI w (W.setCell ⟨bX, i, none⟩ u) CC bC (fun q => q ≠ bX) v cs :=
 ⟨Kd.N_far h.n (fun _ hq => hq) u, blk_far h.c (show bC ≠ bX by have := h.d; omega) u, below_set h.b hd, h.d⟩
end
structure WmX (w W : World) (bX : Nat) (x : S37) (A : Option Addr) (c : Nat) (A3 : Option Addr) (c3 : Nat) : Prop where
 k : W.heap[bX]? = some (.cells #[.slice A x.f0.length c, .bool x.f1.f0, .int .i64 x.f1.f1, .slice A3 x.f1.f2.length c3] 37 (0, 0))
 at_ : CellAt w x A c A3 c3
 ok : CelOk x.f0 x.f1.f2
 d : w.heap.size ≤ bX
theorem wm_new {w W : World} {CC : Array Value} {bC : Nat} {ok : Nat → Prop} {v : Value} {cs : List S37} (h : WmI w W CC bC ok v cs) {x : S37} {A : Option Addr} {c : Nat} {A3 : Option Addr} {c3 : Nat} (hx : CellAt w x A c A3 c3) (hk : CelOk x.f0 x.f1.f2) :
  WmI w (W.alloc (.cells #[.slice A x.f0.length c, .bool x.f1.f0, .int .i64 x.f1.f1, .slice A3 x.f1.f2.length c3] 37)) CC bC (fun q => q ≠ W.heap.size) v cs ∧ WmX w (W.alloc (.cells #[.slice A x.f0.length c, .bool x.f1.f0, .int .i64 x.f1.f1, .slice A3 x.f1.f2.length c3] 37)) W.heap.size x A c A3 c3 :=
 ⟨h.fresh _, heap_alloc_new W _, hx, hk, h.b.size⟩
theorem node_len {n : Nat} {g dr : Int} {z : S55} (h : NodeOk n g dr z) (hn : n ≤ 4) : z.f5.length ≤ 1000 := by
 by_cases e : z.f0 = 2
 ·have := (h.on e).1; omega
 ·rw [h.off e]; simp
theorem mdr_ok {m n : Nat} {g dr : Int} {r : S37} (h : MdR m (NodeOk n g dr) (AgeOk n g) r) (hm : m ≤ 1000) (hn : n ≤ 4) : CellOk r := by
 refine ⟨by rw [h.l]; exact hm, fun z hz => node_len (h.n z hz) hn, ?_⟩
 cases e : r.f1.f0 with
 | true => have := (h.g e).1; omega
 | false => rw [h.e e]; simp
set_option maxHeartbeats 8000000 in
theorem made_law (n : Int) (A : Option Addr) (c : Nat) (l : List S37) (alike : Bool) (w : World) (hC : Kd.C k37 w A l.length l) (hc : l.length ≤ c) :
  Calls Tryz.prog 6 #[.int .i64 n, .slice A l.length c, .bool alike] w fun e w' => e = .returned (.bool true) ∧ Below w.heap.size w w' := by
 have HC := am (And.intro hC hc)
 clear hC hc
 go_enter Tryz.func6, Tryz.ntmps6
 go_wp2_with fail
 refine (alive_walk w).mono ?_
 rintro e w2 ⟨rfl, hb2⟩
 have HB := am hb2
 clear hb2
 go_wp2_with fail
 obtain ⟨ks, hks⟩ := (small_evl l).some_
 refine (dl28_small.calls ks A c l _ w2 (Kd.C_below HC.out.1 HB.out) HC.out.2 hks).mono ?_
 rintro e w4 ⟨rfl, hd4⟩
 have hb4 := hd4.below
 clear hks hd4
 have HB_ := am (below_step HB.out hb4)
 clear HB
 have HB := HB_
 clear HB_
 clear hb4
 cases hsm : smallB l with
 | false =>
  go_wp2_with fail
  refine (alive_walk w4).mono ?_
  rintro e w5 ⟨rfl, hb⟩
  have HB5 := am (below_step HB.out hb)
  clear hb
  go_wp2_with fail
  go_ret
  exact ⟨rfl, HB5.out⟩
 | true =>
  have hm3 : l.length ≤ 20 ∧ ∀ x ∈ l, CelOk x.f0 x.f1.f2 := by
   simp only [smallB, Bool.and_eq_true, decide_eq_true_eq, List.all_eq_true] at hsm
   refine ⟨hsm.1, fun x hx => ?_⟩
   have h1 := hsm.2 x hx
   simp only [smC, Bool.and_eq_true, decide_eq_true_eq, List.all_eq_true] at h1
   exact ⟨by omega, fun z hz => by have := h1.2.2 z hz; omega, by omega⟩
  have HM := am hm3
  clear hsm hm3
  go_wp2_with fail
  obtain ⟨q, s, cyc, dr, ag, lo, li, sp, hM, hMade⟩ := made_is n
  refine (dr26_Made.calls n _ _ _ _ _ _ _ _ _ _ _ _ _ w4 hMade).mono ?_
  have HMF := am (mdf_made hM)
  have HGB := am (gone_both hM)
  have HLN := am (And.intro (len_made q s hM.hq.1 hM.hq.2 hM.hs).1 (And.intro hM.hq hM.hd))
  have hag1 : 1 ≤ ag := (gone_made hM).2.1
  have hlo := hM.hlo
  have hag2 := hM.hag
  have HN1 := am (near_evl q s (a3 := 60) (a4 := 100) (a5 := 3 * Eg dr cyc) (a10 := li) (a11 := sp) (a12 := 12) hM.hq.1 hM.hq.2 hM.hs hM.hd.1 hM.hd.2 hM.hc.1 hM.hc.2 (show (0 : Int) ≤ 300000 by decide) (show (300000 : Int) ≤ 400000 by decide) hag1 (show ag ≤ 200 by omega) (show 0 ≤ lo by omega) (show lo ≤ 20 by omega))
  have HN2 := am (rnear_evl q s (a3 := 60) (a4 := 100) (a5 := 3 * Eg dr cyc) (a10 := li) (a11 := sp) (a12 := 12) hM.hq.1 hM.hq.2 hM.hs hM.hd.1 hM.hd.2 hM.hc.1 hM.hc.2 (show (0 : Int) ≤ 300000 by decide) (show (300000 : Int) ≤ 400000 by decide) hag1 (show ag ≤ 200 by omega) (show 0 ≤ lo by omega) (show lo ≤ 20 by omega))
  clear hM hMade hag1 hlo hag2
  generalize (madeNet q s).1 = P at *
  generalize (madeNet q s).2 = Q at *
  generalize 3 * Eg dr cyc = wd at *
  generalize 2 * Eg dr cyc = nr at *
  rintro e w5 ⟨vP, vQ, rfl, hP, hQ, hb⟩
  obtain ⟨AP, cP, rfl, hcP, hCP⟩ := Kd.R_reads hP
  obtain ⟨AQ, cQ, rfl, hcQ, hCQ⟩ := Kd.R_reads hQ
  have HB_ := am (below_step HB.out hb)
  clear HB
  have HB := HB_
  clear HB_
  clear hb hP hQ
  go_upto_region 4 with fail
  have hbc := below_alloc (Below.refl w5.heap.size w5) (.cells #[.slice AP P.length cP, .slice AQ Q.length cQ, .int .i64 cyc, .int .i64 60, .int .i64 100, .int .i64 wd, .int .i64 dr, .int .i64 300000, .int .i64 ag, .int .i64 lo, .int .i64 li, .int .i64 sp, .int .i64 12] 25)
  have HBC := am (heap_alloc_new w5 (.cells #[.slice AP P.length cP, .slice AQ Q.length cQ, .int .i64 cyc, .int .i64 60, .int .i64 100, .int .i64 wd, .int .i64 dr, .int .i64 300000, .int .i64 ag, .int .i64 lo, .int .i64 li, .int .i64 sp, .int .i64 12] 25))
  have HN : Aside0 (NetAt (w5.alloc (.cells #[.slice AP P.length cP, .slice AQ Q.length cQ, .int .i64 cyc, .int .i64 60, .int .i64 100, .int .i64 wd, .int .i64 dr, .int .i64 300000, .int .i64 ag, .int .i64 lo, .int .i64 li, .int .i64 sp, .int .i64 12] 25)) P AP cP Q AQ cQ) := ⟨⟨Kd.C_below hCP hbc, hcP, Kd.C_below hCQ hbc, hcQ⟩⟩
  have HB_ := am (below_step HB.out hbc)
  clear HB
  have HB := HB_
  clear HB_
  clear hbc hcP hCP hcQ hCQ
  generalize w5.alloc (.cells #[.slice AP P.length cP, .slice AQ Q.length cQ, .int .i64 cyc, .int .i64 60, .int .i64 100, .int .i64 wd, .int .i64 dr, .int .i64 300000, .int .i64 ag, .int .i64 lo, .int .i64 li, .int .i64 sp, .int .i64 12] 25) = w6 at *
  obtain ⟨bC, hbC⟩ : ∃ bC, bC = w5.heap.size := ⟨_, rfl⟩
  rw [← hbC] at HBC
  rw [← hbC]
  clear hbC
  have HI : Aside0 (WmI w6 w6 #[.slice AP P.length cP, .slice AQ Q.length cQ, .int .i64 cyc, .int .i64 60, .int .i64 100, .int .i64 wd, .int .i64 dr, .int .i64 300000, .int .i64 ag, .int .i64 lo, .int .i64 li, .int .i64 sp, .int .i64 12] bC (fun _ => True) (.slice none 0 0) []) := ⟨⟨Kd.R_N (Kd.R_nil _ _ _ _ _), HBC.out, Below.refl _ _, blk_lt HBC.out⟩⟩
  have HCL := am (Kd.C_below HC.out.1 HB.out)
  clear HBC
  go_wp2_with fail
  go_loopg [8, 9] (P.length + 1) (fun kq v8 v9 wr => ∃ (k : Nat) (cs : List S37), v9 = .int .i64 k ∧ Aside0 (kq + k = P.length + 1 ∧ k ≤ P.length) ∧ Aside0 (WmI w6 wr #[.slice AP P.length cP, .slice AQ Q.length cQ, .int .i64 cyc, .int .i64 60, .int .i64 100, .int .i64 wd, .int .i64 dr, .int .i64 300000, .int .i64 ag, .int .i64 lo, .int .i64 li, .int .i64 sp, .int .i64 12] bC (fun _ => True) v8 cs) ∧ Aside0 (cs.length = k ∧ ∀ x ∈ cs, CellOk x))
  case atStart => exact ⟨0, [], rfl, ⟨by omega⟩, HI, ⟨rfl, fun _ h => by cases h⟩⟩
  case round =>
   clear HI
   obtain ⟨k, cs, rfl, HK, HI, HS⟩ := hrel
   cases gk with
   | zero => exact absurd HK.out (by omega)
   | succ k1 =>
   have hPl : 1 ≤ P.length ∧ P.length ≤ 4 := by have := HLN.out; omega
   have HPL := am hPl
   have hl20 := HM.out.1
   obtain ⟨Ac, cc, e⟩ := Kd.N_slice HI.out.n
   subst e
   have g0 : wr.cell? ⟨bC, 0, none⟩ = some (.slice AP P.length cP) := (blk_cell HI.out.c 0).trans rfl
   by_cases hk : k < P.length
   ·have d1 : decide (k < P.length) = true := dT hk
    go_upto_region 9 with fail
    clear d1 g0
    go_upto_if 41 with fail
    go_cut [] (fun wx => ∃ x A' c' A3 c3, Aside0 (WmI w6 wx #[.slice AP P.length cP, .slice AQ Q.length cQ, .int .i64 cyc, .int .i64 60, .int .i64 100, .int .i64 wd, .int .i64 dr, .int .i64 300000, .int .i64 ag, .int .i64 lo, .int .i64 li, .int .i64 sp, .int .i64 12] bC (fun q => q ≠ wr.heap.size) (.slice Ac cs.length cc) cs) ∧ Aside0 (WmX w6 wx wr.heap.size x A' c' A3 c3))
    case first =>
     have hbW := below_alloc HI.out.b (.cells #[.slice none 0 0, .bool false, .int .i64 0, .slice none 0 0] 37)
     by_cases hi : k < l.length
     ·have d2 : decide (k < l.length) = true := dT hi
      obtain ⟨ad, A5, c5, B5, e5, e, y0, y1, y2, y3, hc5, hC5, hc6, hC6⟩ := at_T37 HCL.out (k : Int) (by omega) (by omega)
      cases e
      have hy : rd_T37 l (k : Int) ∈ l := by
       have e : rd_T37 l (k : Int) = l[k] := by simp [rd_T37, hi]
       rw [e]; exact List.getElem_mem hi
      have HLy := am (HM.out.2 _ hy)
      have hat : CellAt w6 (rd_T37 l (k : Int)) A5 c5 B5 e5 := ⟨hC5, hc5, hC6, hc6⟩
      generalize rd_T37 l (k : Int) = y at *
      have HAT := am hat
      simp only [Int.toNat_natCast] at y0 y1 y2 y3
      have z0 := (hbW.cell (c_lt y0)).trans y0
      have z1 := (hbW.cell (c_lt y1)).trans y1
      have z2 := (hbW.cell (c_lt y2)).trans y2
      have z3 := (hbW.cell (c_lt y3)).trans y3
      clear y0 y1 y2 y3 hc5 hC5 hc6 hC6 hy hbW hat
      go_wp2_with fail
      go_meet
      exact ⟨y, A5, c5, B5, e5, ⟨(wm_new HI.out HAT.out HLy.out).1⟩, ⟨(wm_new HI.out HAT.out HLy.out).2⟩⟩
     ·have d2 : decide (k < l.length) = false := dF hi
      clear hbW
      have HZ : Aside0 (CellAt w6 ⟨[], ⟨false, 0, []⟩⟩ none 0 none 0 ∧ CelOk [] []) := ⟨⟨Kd.C_nil _ _, Nat.le_refl 0, Kd.C_nil _ _, Nat.le_refl 0⟩, ⟨Nat.zero_le _, fun _ h => (by cases h), Nat.zero_le _⟩⟩
      go_wp2_with fail
      go_meet
      exact ⟨⟨[], ⟨false, 0, []⟩⟩, none, 0, none, 0, ⟨(wm_new HI.out HZ.out.1 HZ.out.2).1⟩, ⟨(wm_new HI.out HZ.out.1 HZ.out.2).2⟩⟩
    case rest =>
     obtain ⟨x, A5, c5, B5, e5, HJ, HXX⟩ := hcut
     clear HI
     obtain ⟨bX, hbX⟩ : ∃ bX, bX = wr.heap.size := ⟨_, rfl⟩
     rw [← hbX] at HJ HXX
     rw [← hbX]
     clear hbX
     go_upto_region 11 with fail
     go_cut [51] (fun s51 wx => s51 = .bool (alike && decide (0 < l.length)) ∧ wx = wc)
     case first =>
      cases alike with
      | false =>
       go_wp2_with fail
       go_meet
       exact ⟨rfl, rfl⟩
      | true =>
       by_cases h0 : 0 < l.length
       ·have d3 : decide (0 < l.length) = true := dT h0
        go_wp2_with fail
        go_meet
        exact ⟨by rw [d3]; rfl, rfl⟩
       ·have d3 : decide (0 < l.length) = false := dF h0
        go_wp2_with fail
        go_meet
        exact ⟨by rw [d3]; rfl, rfl⟩
     case rest =>
      obtain ⟨rfl, rfl⟩ := hcut
      go_upto_if 51 with fail
      obtain ⟨qa, hqa⟩ : ∃ qa, (alike && decide (0 < l.length)) = qa := ⟨_, rfl⟩
      have HQ : Aside0 (qa = true → 0 < l.length) := ⟨fun h => by rw [h] at hqa; simp at hqa; exact hqa.2⟩
      rw [hqa]
      clear hqa
      go_cut [] (fun wx => ∃ x A' c' A3 c3, Aside0 (WmI w6 wx #[.slice AP P.length cP, .slice AQ Q.length cQ, .int .i64 cyc, .int .i64 60, .int .i64 100, .int .i64 wd, .int .i64 dr, .int .i64 300000, .int .i64 ag, .int .i64 lo, .int .i64 li, .int .i64 sp, .int .i64 12] bC (fun q => q ≠ bX) (.slice Ac cs.length cc) cs) ∧ Aside0 (WmX w6 wx bX x A' c' A3 c3))
      case first =>
       cases qa with
       | false =>
        go_wp2_with fail
        go_meet
        exact ⟨x, A5, c5, B5, e5, HJ, HXX⟩
       | true =>
        have h0 := HQ.out rfl
        obtain ⟨ad, E5, k5, F5, m5, e, y0, y1, y2, y3, hc5, hC5, hc6, hC6⟩ := at_T37 HCL.out 0 (by omega) (by omega)
        cases e
        have hy : rd_T37 l 0 ∈ l := by
         have e : rd_T37 l 0 = l[0] := by simp [rd_T37, h0]
         rw [e]; exact List.getElem_mem h0
        have HLy := am (HM.out.2 _ hy)
        have hat : CellAt w6 (rd_T37 l 0) E5 k5 F5 m5 := ⟨hC5, hc5, hC6, hc6⟩
        generalize rd_T37 l 0 = y at *
        have HAT := am hat
        have v0 : w6.cell? ad = some (.slice E5 y.f0.length k5) := by simpa [Addr.add] using y0
        have v1 : w6.cell? ⟨ad.block, ad.off + 1, none⟩ = some (.bool y.f1.f0) := by simpa [Addr.add] using y1
        have v2 : w6.cell? ⟨ad.block, ad.off + 2, none⟩ = some (.int .i64 y.f1.f1) := by simpa [Addr.add] using y2
        have v3 : w6.cell? ⟨ad.block, ad.off + 3, none⟩ = some (.slice F5 y.f1.f2.length m5) := by simpa [Addr.add] using y3
        have z0 := (HJ.out.b.cell (c_lt v0)).trans v0
        have z1 := (HJ.out.b.cell (c_lt v1)).trans v1
        have z2 := (HJ.out.b.cell (c_lt v2)).trans v2
        have z3 := (HJ.out.b.cell (c_lt v3)).trans v3
        obtain ⟨bx0, bx1, bx2, bx3⟩ := cellsK4 HXX.out.k
        obtain ⟨bf0, bf1, bf2, bf3⟩ := frozK4 HXX.out.k
        clear y0 y1 y2 y3 v0 v1 v2 v3 hc5 hC5 hc6 hC6 hy hat
        go_wp2_with fail
        go_meet
        exact ⟨y, E5, k5, F5, m5, ⟨(((HJ.out.put HXX.out.d 0 _).put HXX.out.d 1 _).put HXX.out.d 2 _).put HXX.out.d 3 _⟩, ⟨⟨blk_put (blk_put (blk_put (blk_put HXX.out.k 0 _ rfl) 1 _ rfl) 2 _ rfl) 3 _ rfl, HAT.out, HLy.out, HXX.out.d⟩⟩⟩
      case rest =>
       clear HJ HXX HQ
       obtain ⟨x, A5, c5, B5, e5, HJ, HXX⟩ := hcut
       obtain ⟨m, hMF, _⟩ := HMF.out (k : Int) (by omega) (by have := HLN.out; omega)
       have HMA := am hMF
       clear hMF
       obtain ⟨bx0, bx1, bx2, bx3⟩ := cellsK4 HXX.out.k
       obtain ⟨n0, n1, n2, n3, n4, n5, n6, n7, n8, n9, n10, n11, n12⟩ := cellsK13 HJ.out.c
       go_upto_region 13 with fail
       go_wp2_with fail
       refine (made19_walk AP cP P AQ cQ Q cyc 60 100 wd dr 300000 ag lo li sp 12 (k : Int) A5 c5 x.f0 x.f1.f0 x.f1.f1 B5 e5 x.f1.f2 alike m 100 (NodeOk q (ag + 1) dr) (AgeOk q (ag + 1)) wc (HN.out.below HJ.out.b) (HXX.out.at_.below HJ.out.b) HXX.out.ok HMA.out).mono ?_
       rintro e w9 ⟨r9, A9, c9, B9, e9, rfl, hf9, hd9, hb9⟩
       have HJ9 := am (HJ.out.step hb9)
       have hsz9 := HJ.out.b.size
       have hnl := Kd.N_lt HJ.out.n
       have hXl := blk_lt HXX.out.k
       have HF9 := am (k37_mkF _ _ r9 hf9.c0 hf9.r0 hf9.c3 hf9.r3)
       have HOK : Aside0 (∀ q, wc.heap.size ≤ q → q ≠ bX ∧ some q ≠ (Value.slice Ac cs.length cc).ownBlock) := ⟨fun q hq => ⟨by omega, fun e => by have := hnl q e.symm; omega⟩⟩
       have HFR : Aside0 (∀ q, w9.heap.size ≤ q → q ≠ bX) := ⟨fun q hq => by have := hb9.size; omega⟩
       have HBS := am HJ9.out.b.size
       have HCO := am (mdr_ok hd9 HMA.out.m (by have := HLN.out; omega))
       have HL9 : Aside0 (cs.length ≤ 4) := ⟨by have := HS.out.1; have := HPL.out; omega⟩
       clear hf9 hd9 hb9 hsz9 hnl hXl bx0 bx1 bx2 bx3 n0 n1 n2 n3 n4 n5 n6 n7 n8 n9 n10 n11 n12
       go_wp2_with (refine Kd.N_append k37 (w0 := w6) w6.heap.size rfl (.tmp 55) (.tmp 61) 26 37 (.agg #[.slice none 0 0, .bool false, .int .i64 0, .slice none 0 0]) 64 rfl Tryz.underlying26 info37 rfl (by decide) (by omega) (.slice Ac cs.length cc) cs r9 [.slice A9 r9.f0.length c9, .bool r9.f1.f0, .int .i64 r9.f1.f1, .slice B9 r9.f1.f2.length e9] (fun q => q ≠ bX) (fun q => wc.heap.size ≤ q) rfl rfl HF9.out HOK.out HFR.out HJ9.out.n HJ9.out.b HBS.out (by have := HL9.out; omega) ?_; intro v1 w10 ho hbb hg hat; obtain ⟨Ax, cx, ex⟩ := Kd.N_slice ho; subst ex; have HO := am ho; have HBB := am hbb; have HCC := am (blk_grown HJ9.out.c hg (fun e => by have h1 := Kd.N_base HJ9.out.n bC e.symm; have h2 := HJ9.out.d; omega)); clear ho hbb hg hat; skip)
       rw [List.length_append, List.length_singleton] at HO
       go_roundg k1
       case measure => have := HK.out; omega
       case rel => exact ⟨k + 1, cs ++ [r9], by first | rfl | (congr 1), ⟨by have := HK.out; omega⟩, ⟨⟨Kd.N_mono HO.out (fun _ _ => trivial), HCC.out, HBB.out, HJ9.out.d⟩⟩, ⟨by rw [List.length_append, List.length_singleton, HS.out.1], fun z hz => by
        rcases List.mem_append.1 hz with h | h
        ·exact HS.out.2 z h
        ·rw [List.mem_singleton.1 h]; exact HCO.out⟩⟩
   ·have hkP : k = P.length := by have := HK.out; omega
    have d1 : decide (k < P.length) = false := dF hk
    have HCS : Aside0 (1 ≤ cs.length ∧ cs.length ≤ 4) := ⟨by rw [HS.out.1, hkP]; exact hPl⟩
    have HSX := am HS.out.2
    have hcz := HCS.out
    clear hkP hk HS
    obtain ⟨n0, n1, n2, n3, n4, n5, n6, n7, n8, n9, n10, n11, n12⟩ := cellsK13 HI.out.c
    go_upto_region 14 with fail
    go_wp2_with fail
    have hrow := (Kd.N_reads' HI.out.n).2.2
    refine (base_walk AP cP P AQ cQ Q cyc 60 100 wd dr 300000 ag lo li sp 12 Ac cc cs (ag + 1) wr (HN.out.below HI.out.b) hrow (by omega) (fun x hx => ⟨(HSX.out x hx).l, by have := (HSX.out x hx).a; omega⟩) (fun W hW => HGB.out.1 AP cP AQ cQ W hW)).mono ?_
    rintro e w7 ⟨rfl, hb⟩
    have HI7 := am (HI.out.step hb)
    clear hb HI hrow d1 hcz n0 n1 n2 n3 n4 n5 n6 n7 n8 n9 n10 n11 n12 g0
    obtain ⟨n0, n1, n2, n3, n4, n5, n6, n7, n8, n9, n10, n11, n12⟩ := cellsK13 HI7.out.c
    go_upto_region 15 with fail
    go_wp2_with fail
    have hrow := (Kd.N_reads' HI7.out.n).2.2
    have hrb := rbase_walk AP cP P AQ cQ Q cyc 60 100 wd dr 300000 ag lo li sp 12 Ac cc cs (ag + 1) w7 (HN.out.below HI7.out.b) hrow (by have := HCS.out; omega) (fun x hx => ⟨(HSX.out x hx).l, by have := (HSX.out x hx).a; omega⟩) (fun W hW => HGB.out.2 AP cP AQ cQ W hW)
    rw [rb_base] at hrb
    generalize baseV (ag + 1) cs = bv at *
    obtain ⟨bv1, bv2⟩ := bv
    refine hrb.mono ?_
    clear hrb hrow
    rintro e w8 ⟨rfl, hb⟩
    have HI8 := am (HI7.out.step hb)
    clear hb HI7 n0 n1 n2 n3 n4 n5 n6 n7 n8 n9 n10 n11 n12
    have e1 : (bv1 != bv1) = false := bne_self_eq_false _
    have e2 : (bv2 != bv2) = false := bne_self_eq_false _
    go_wp2_with fail
    have HCA := am (Kd.N_reads' HI8.out.n).2.2
    have HCC := am HI8.out.c
    have HBA := am (below_step HB.out HI8.out.b)
    have HB6 := am HI8.out.b
    clear HI8 e1 e2
    go_loopg [15] (cs.length + 1) (fun kq v15 wr => ∃ k : Nat, v15 = .int .i64 k ∧ Aside0 (kq + k = cs.length + 1 ∧ k ≤ cs.length) ∧ Aside0 (Below w8.heap.size w8 wr))
    case atStart => exact ⟨0, rfl, ⟨by omega⟩, ⟨Below.refl _ _⟩⟩
    case round =>
     obtain ⟨i, rfl, HJ, HW8⟩ := hrel
     cases gk with
     | zero => exact absurd HJ.out (by omega)
     | succ k2 =>
     have hcz := HCS.out
     by_cases hi : i < cs.length
     ·have d1 : decide (i < cs.length) = true := dT hi
      have hC8 := Kd.C_below HCA.out HW8.out
      obtain ⟨ad, A0, c0, B0, d0, e, x0, x1, x2, x3, hc0, hC0, hd0, hD0⟩ := at_T37 hC8 0 (by omega) (by omega)
      cases e
      obtain ⟨ad', A5, c5, B5, d5, e, y0, y1, y2, y3, hc5, hC5, hd5, hD5⟩ := at_T37 hC8 (i : Int) (by omega) (by omega)
      cases e
      have hx : rd_T37 cs 0 ∈ cs := by
       have e : rd_T37 cs 0 = cs[0] := by simp [rd_T37, show 0 < cs.length by omega]
       rw [e]; exact List.getElem_mem (by omega)
      have hy : rd_T37 cs (i : Int) ∈ cs := by
       have e : rd_T37 cs (i : Int) = cs[i] := by simp [rd_T37, hi]
       rw [e]; exact List.getElem_mem hi
      have HOX := am (HSX.out _ hx)
      have HOY := am (HSX.out _ hy)
      have hXA : CellAt wr (rd_T37 cs 0) A0 c0 B0 d0 := ⟨hC0, hc0, hD0, hd0⟩
      have hYA : CellAt wr (rd_T37 cs (i : Int)) A5 c5 B5 d5 := ⟨hC5, hc5, hD5, hd5⟩
      generalize rd_T37 cs 0 = x at *
      generalize rd_T37 cs (i : Int) = y at *
      have HXA := am hXA
      have HYA := am hYA
      simp only [Int.toNat_natCast] at y0 y1 y2 y3
      have v0 : wr.cell? ad = some (.slice A0 x.f0.length c0) := by simpa [Addr.add] using x0
      have v1 : wr.cell? ⟨ad.block, ad.off + 1, none⟩ = some (.bool x.f1.f0) := by simpa [Addr.add] using x1
      have v2 : wr.cell? ⟨ad.block, ad.off + 2, none⟩ = some (.int .i64 x.f1.f1) := by simpa [Addr.add] using x2
      have v3 : wr.cell? ⟨ad.block, ad.off + 3, none⟩ = some (.slice B0 x.f1.f2.length d0) := by simpa [Addr.add] using x3
      have HCW := am ((HW8.out.block bC (blk_lt HCC.out)).trans HCC.out)
      clear x0 x1 x2 x3 hc0 hC0 hd0 hD0 hc5 hC5 hd5 hD5 hx hy hC8 hXA hYA
      have w1i : wrap64 ((i : Int) + 1) = ((i + 1 : Nat) : Int) := by unfold wrap64; omega
      have p1n : 0 < cs.length := by omega
      have l0 := HOX.out.l
      have l1 := HOY.out.l
      have a0 := HOY.out.n
      obtain ⟨k3, s3⟩ := (wskew_evl (l := x.f0) (m := y.f0) (by omega) (by omega) x.f1.f0 x.f1.f1 x.f1.f2 y.f1.f0 y.f1.f1 y.f1.f2).some_
      obtain ⟨k4, s4⟩ := (rskew_evl (l := x.f0) (m := y.f0) (by omega) (by omega) x.f1.f0 x.f1.f1 x.f1.f2 y.f1.f0 y.f1.f1 y.f1.f2).some_
      have s5 : watch_Agree.f y.f0 y.f1.f0 y.f1.f1 y.f1.f2 = some (agreeB y.f0) := if_pos ⟨by omega, List.all_eq_true.2 fun z h => dT (by have := a0 z h; omega)⟩
      have s6 : dr26_Agree.f y.f0 y.f1.f0 y.f1.f1 y.f1.f2 = some (agreeB y.f0) := if_pos ⟨by omega, List.all_eq_true.2 fun z h => dT (by have := a0 z h; omega)⟩
      have s7 : ∀ W : World, NetAt W P AP cP Q AQ cQ → CellAt W y A5 c5 B5 d5 → Calls Tryz.prog 11 #[.agg #[.slice AP P.length cP, .slice AQ Q.length cQ, .int .i64 cyc, .int .i64 60, .int .i64 100, .int .i64 wd, .int .i64 dr, .int .i64 300000, .int .i64 ag, .int .i64 lo, .int .i64 li, .int .i64 sp, .int .i64 12], .agg #[.slice A5 y.f0.length c5, .bool y.f1.f0, .int .i64 y.f1.f1, .slice B5 y.f1.f2.length d5]] W fun e w' => e = .returned (.bool (withinV nr y.f0 (begs y.f0 y.f1.f0 y.f1.f1))) ∧ Below W.heap.size W w' := fun W hN hX => within_walk AP cP P AQ cQ Q cyc 60 100 wd dr 300000 ag lo li sp 12 A5 c5 y.f0 y.f1.f0 y.f1.f1 B5 d5 y.f1.f2 nr W hN hX (by omega) (fun z h => by have := a0 z h; omega) HN1.out
      obtain ⟨k8, s8⟩ := (rwithin_evl (l := y.f0) (by omega) (fun z h => by have := a0 z h; omega) P Q cyc 60 100 wd dr 300000 ag lo li sp 12 y.f1.f0 y.f1.f1 y.f1.f2 HN2.out).some_
      clear l0 l1 a0
      generalize skewV ((syn x.f0).map (·.f3)) ((syn y.f0).map (·.f3)) = sk at s3 s4
      generalize agreeB y.f0 = qa at s5 s6
      generalize withinV nr y.f0 (begs y.f0 y.f1.f0 y.f1.f1) = qw at s7 s8
      obtain ⟨u1, u2⟩ := sk
      have S3 := am s3
      have S4 := am s4
      have S5 := am s5
      have S6 := am s6
      have S7 := am s7
      have S8 := am s8
      clear s3 s4 s5 s6 s7 s8 hcz
      go_upto_region 21 with fail
      have K0 := am (Below.refl wr.heap.size wr).drew
      have dd0 : wr.drew.cell? ad = some (.slice A0 x.f0.length c0) := v0
      have dd1 : wr.drew.cell? ⟨ad.block, ad.off + 1, none⟩ = some (.bool x.f1.f0) := v1
      have dd2 : wr.drew.cell? ⟨ad.block, ad.off + 2, none⟩ = some (.int .i64 x.f1.f1) := v2
      have dd3 : wr.drew.cell? ⟨ad.block, ad.off + 3, none⟩ = some (.slice B0 x.f1.f2.length d0) := v3
      have dd4 : wr.drew.cell? (ad.add (i * 4)) = some (.slice A5 y.f0.length c5) := y0
      have dd5 : wr.drew.cell? ⟨(ad.add (i * 4)).block, (ad.add (i * 4)).off + 1, none⟩ = some (.bool y.f1.f0) := y1
      have dd6 : wr.drew.cell? ⟨(ad.add (i * 4)).block, (ad.add (i * 4)).off + 2, none⟩ = some (.int .i64 y.f1.f1) := y2
      have dd7 : wr.drew.cell? ⟨(ad.add (i * 4)).block, (ad.add (i * 4)).off + 3, none⟩ = some (.slice B5 y.f1.f2.length d5) := y3
      refine start_ (n := 13) (S := fun w' => w'.cell? ad = some (.slice A0 x.f0.length c0) ∧ w'.cell? ⟨ad.block, ad.off + 1, none⟩ = some (.bool x.f1.f0) ∧ w'.cell? ⟨ad.block, ad.off + 2, none⟩ = some (.int .i64 x.f1.f1) ∧ w'.cell? ⟨ad.block, ad.off + 3, none⟩ = some (.slice B0 x.f1.f2.length d0) ∧ w'.cell? (ad.add (i * 4)) = some (.slice A5 y.f0.length c5) ∧ w'.cell? ⟨(ad.add (i * 4)).block, (ad.add (i * 4)).off + 1, none⟩ = some (.bool y.f1.f0) ∧ w'.cell? ⟨(ad.add (i * 4)).block, (ad.add (i * 4)).off + 2, none⟩ = some (.int .i64 y.f1.f1) ∧ w'.cell? ⟨(ad.add (i * 4)).block, (ad.add (i * 4)).off + 3, none⟩ = some (.slice B5 y.f1.f2.length d5)) (ds := []) #[false, false, false, false, false, false, false, false, false, false, false, false, false] (by kernel_rfl) rfl rfl ⟨dd0, dd1, dd2, dd3, dd4, dd5, dd6, dd7⟩ (fun hHeld => ?_)
      refine pu 0 90 ?_
      refine pu 1 91 ?_
      refine pu 3 93 ?_
      refine pu 4 94 ?_
      refine pu 5 95 ?_
      refine tk8 2 92 ?_
      refine tk8 6 96 ?_
      refine on 7 97 (fun K hK => ?_)
      refine goes_ Tryz.func15 (by kernel_rfl) rfl #[.agg #[.slice A0 x.f0.length c0, .bool x.f1.f0, .int .i64 x.f1.f1, .slice B0 x.f1.f2.length d0], .agg #[.slice A5 y.f0.length c5, .bool y.f1.f0, .int .i64 y.f1.f1, .slice B5 y.f1.f2.length d5]] (by rfl) rfl rfl lm ?_
      with_reducible refine (watch_Skew.calls k3 A0 c0 x.f0 x.f1.f0 x.f1.f1 B0 d0 x.f1.f2 A5 c5 y.f0 y.f1.f0 y.f1.f1 B5 d5 y.f1.f2 _ _ _ (HXA.out.below K0.out).r0 (HXA.out.below K0.out).c0 (HXA.out.below K0.out).r3 (HXA.out.below K0.out).c3 (HYA.out.below K0.out).r0 (HYA.out.below K0.out).c0 (HYA.out.below K0.out).r3 (HYA.out.below K0.out).c3 S3.out).mono ?_
      rintro e w21 ⟨rfl, hbK1⟩
      have K1 := am (below_step K0.out hbK1)
      have da0 := (hbK1.cell (c_lt dd0)).trans dd0
      have da1 := (hbK1.cell (c_lt dd1)).trans dd1
      have da2 := (hbK1.cell (c_lt dd2)).trans dd2
      have da3 := (hbK1.cell (c_lt dd3)).trans dd3
      have da4 := (hbK1.cell (c_lt dd4)).trans dd4
      have da5 := (hbK1.cell (c_lt dd5)).trans dd5
      have da6 := (hbK1.cell (c_lt dd6)).trans dd6
      have da7 := (hbK1.cell (c_lt dd7)).trans dd7
      clear hbK1
      refine ⟨_, rfl, ?_⟩
      clear hHeld
      refine hK.out _ _ ⟨da0, da1, da2, da3, da4, da5, da6, da7⟩ (fun hHeld => ?_)
      clear hK K
      refine norm_ (a' := ?_) ?_ ?_
      rotate_left
      ·show Act.put _ (some 97) _ = _
       simp only [Act.put, sAa, sBb, sCc, i64_w, i32_w]
       rfl
      refine pu 8 89 ?_
      refine pu 9 98 ?_
      refine pu 10 99 ?_
      refine pu 11 16 ?_
      refine pu 12 17 ?_
      refine done_ (by kernel_rfl) ?_
      clear hHeld
      clear v0 v1 v2 v3 y0 y1 y2 y3
      clear dd0 dd1 dd2 dd3 dd4 dd5 dd6 dd7
      go_wp2_with fail
      have K2 := am K1.out.drew
      have dd0 : w21.drew.cell? ad = some (.slice A0 x.f0.length c0) := da0
      have dd1 : w21.drew.cell? ⟨ad.block, ad.off + 1, none⟩ = some (.bool x.f1.f0) := da1
      have dd2 : w21.drew.cell? ⟨ad.block, ad.off + 2, none⟩ = some (.int .i64 x.f1.f1) := da2
      have dd3 : w21.drew.cell? ⟨ad.block, ad.off + 3, none⟩ = some (.slice B0 x.f1.f2.length d0) := da3
      have dd4 : w21.drew.cell? (ad.add (i * 4)) = some (.slice A5 y.f0.length c5) := da4
      have dd5 : w21.drew.cell? ⟨(ad.add (i * 4)).block, (ad.add (i * 4)).off + 1, none⟩ = some (.bool y.f1.f0) := da5
      have dd6 : w21.drew.cell? ⟨(ad.add (i * 4)).block, (ad.add (i * 4)).off + 2, none⟩ = some (.int .i64 y.f1.f1) := da6
      have dd7 : w21.drew.cell? ⟨(ad.add (i * 4)).block, (ad.add (i * 4)).off + 3, none⟩ = some (.slice B5 y.f1.f2.length d5) := da7
      refine start_ (n := 13) (S := fun w' => w'.cell? ad = some (.slice A0 x.f0.length c0) ∧ w'.cell? ⟨ad.block, ad.off + 1, none⟩ = some (.bool x.f1.f0) ∧ w'.cell? ⟨ad.block, ad.off + 2, none⟩ = some (.int .i64 x.f1.f1) ∧ w'.cell? ⟨ad.block, ad.off + 3, none⟩ = some (.slice B0 x.f1.f2.length d0) ∧ w'.cell? (ad.add (i * 4)) = some (.slice A5 y.f0.length c5) ∧ w'.cell? ⟨(ad.add (i * 4)).block, (ad.add (i * 4)).off + 1, none⟩ = some (.bool y.f1.f0) ∧ w'.cell? ⟨(ad.add (i * 4)).block, (ad.add (i * 4)).off + 2, none⟩ = some (.int .i64 y.f1.f1) ∧ w'.cell? ⟨(ad.add (i * 4)).block, (ad.add (i * 4)).off + 3, none⟩ = some (.slice B5 y.f1.f2.length d5)) (ds := []) #[false, false, false, false, false, false, false, false, false, false, false, false, false] (by kernel_rfl) rfl rfl ⟨dd0, dd1, dd2, dd3, dd4, dd5, dd6, dd7⟩ (fun hHeld => ?_)
      refine pu 0 101 ?_
      refine pu 1 102 ?_
      refine pu 3 104 ?_
      refine pu 4 105 ?_
      refine pu 5 106 ?_
      refine tk8 2 103 ?_
      refine tk8 6 107 ?_
      refine on 7 108 (fun K hK => ?_)
      refine goes_ Tryz.func19 (by kernel_rfl) rfl #[.agg #[.slice A0 x.f0.length c0, .bool x.f1.f0, .int .i64 x.f1.f1, .slice B0 x.f1.f2.length d0], .agg #[.slice A5 y.f0.length c5, .bool y.f1.f0, .int .i64 y.f1.f1, .slice B5 y.f1.f2.length d5]] (by rfl) rfl rfl lm ?_
      with_reducible refine (dr26_Skew.calls k4 A0 c0 x.f0 x.f1.f0 x.f1.f1 B0 d0 x.f1.f2 A5 c5 y.f0 y.f1.f0 y.f1.f1 B5 d5 y.f1.f2 _ _ _ (HXA.out.below K2.out).r0 (HXA.out.below K2.out).c0 (HXA.out.below K2.out).r3 (HXA.out.below K2.out).c3 (HYA.out.below K2.out).r0 (HYA.out.below K2.out).c0 (HYA.out.below K2.out).r3 (HYA.out.below K2.out).c3 S4.out).mono ?_
      rintro e w22 ⟨rfl, hbK3⟩
      have K3 := am (below_step K2.out hbK3)
      have de0 := (hbK3.cell (c_lt dd0)).trans dd0
      have de1 := (hbK3.cell (c_lt dd1)).trans dd1
      have de2 := (hbK3.cell (c_lt dd2)).trans dd2
      have de3 := (hbK3.cell (c_lt dd3)).trans dd3
      have de4 := (hbK3.cell (c_lt dd4)).trans dd4
      have de5 := (hbK3.cell (c_lt dd5)).trans dd5
      have de6 := (hbK3.cell (c_lt dd6)).trans dd6
      have de7 := (hbK3.cell (c_lt dd7)).trans dd7
      clear hbK3
      refine ⟨_, rfl, ?_⟩
      clear hHeld
      refine hK.out _ _ ⟨de0, de1, de2, de3, de4, de5, de6, de7⟩ (fun hHeld => ?_)
      clear hK K
      refine norm_ (a' := ?_) ?_ ?_
      rotate_left
      ·show Act.put _ (some 108) _ = _
       simp only [Act.put, sAa, sBb, sCc, i64_w, i32_w]
       rfl
      refine pu 8 100 ?_
      refine pu 9 109 ?_
      refine pu 10 110 ?_
      refine pu 11 18 ?_
      refine pu 12 19 ?_
      refine done_ (by kernel_rfl) ?_
      clear hHeld
      clear da0 dd0 da1 dd1 da2 dd2 da3 dd3 da4 dd4 da5 dd5 da6 dd6 da7 dd7
      go_wp2_with fail
      have HCZ := am ((K3.out.block bC (blk_lt HCW.out)).trans HCW.out)
      obtain ⟨n0, n1, n2, n3, n4, n5, n6, n7, n8, n9, n10, n11, n12⟩ := cellsK13 HCZ.out
      have e1 : (qa != qa) = false := bne_self_eq_false _
      have e2 : (qw != qw) = false := bne_self_eq_false _
      have e3 : (u1 != u1) = false := bne_self_eq_false _
      have e4 : (u2 != u2) = false := bne_self_eq_false _
      have HNW := am (HN.out.below (below_step HB6.out HW8.out))
      have K4 := am K3.out.drew
      have dd0 : w22.drew.cell? (ad.add (i * 4)) = some (.slice A5 y.f0.length c5) := de4
      have dd1 : w22.drew.cell? ⟨(ad.add (i * 4)).block, (ad.add (i * 4)).off + 1, none⟩ = some (.bool y.f1.f0) := de5
      have dd2 : w22.drew.cell? ⟨(ad.add (i * 4)).block, (ad.add (i * 4)).off + 2, none⟩ = some (.int .i64 y.f1.f1) := de6
      have dd3 : w22.drew.cell? ⟨(ad.add (i * 4)).block, (ad.add (i * 4)).off + 3, none⟩ = some (.slice B5 y.f1.f2.length d5) := de7
      have dd4 : w22.drew.cell? ⟨bC, 0, none⟩ = some (.slice AP P.length cP) := n0
      have dd5 : w22.drew.cell? ⟨bC, 1, none⟩ = some (.slice AQ Q.length cQ) := n1
      have dd6 : w22.drew.cell? ⟨bC, 2, none⟩ = some (.int .i64 cyc) := n2
      have dd7 : w22.drew.cell? ⟨bC, 3, none⟩ = some (.int .i64 60) := n3
      have dd8 : w22.drew.cell? ⟨bC, 4, none⟩ = some (.int .i64 100) := n4
      have dd9 : w22.drew.cell? ⟨bC, 5, none⟩ = some (.int .i64 wd) := n5
      have dd10 : w22.drew.cell? ⟨bC, 6, none⟩ = some (.int .i64 dr) := n6
      have dd11 : w22.drew.cell? ⟨bC, 7, none⟩ = some (.int .i64 300000) := n7
      have dd12 : w22.drew.cell? ⟨bC, 8, none⟩ = some (.int .i64 ag) := n8
      have dd13 : w22.drew.cell? ⟨bC, 9, none⟩ = some (.int .i64 lo) := n9
      have dd14 : w22.drew.cell? ⟨bC, 10, none⟩ = some (.int .i64 li) := n10
      have dd15 : w22.drew.cell? ⟨bC, 11, none⟩ = some (.int .i64 sp) := n11
      have dd16 : w22.drew.cell? ⟨bC, 12, none⟩ = some (.int .i64 12) := n12
      refine start_ (n := 36) (S := fun w' => w'.cell? (ad.add (i * 4)) = some (.slice A5 y.f0.length c5) ∧ w'.cell? ⟨(ad.add (i * 4)).block, (ad.add (i * 4)).off + 1, none⟩ = some (.bool y.f1.f0) ∧ w'.cell? ⟨(ad.add (i * 4)).block, (ad.add (i * 4)).off + 2, none⟩ = some (.int .i64 y.f1.f1) ∧ w'.cell? ⟨(ad.add (i * 4)).block, (ad.add (i * 4)).off + 3, none⟩ = some (.slice B5 y.f1.f2.length d5) ∧ w'.cell? ⟨bC, 0, none⟩ = some (.slice AP P.length cP) ∧ w'.cell? ⟨bC, 1, none⟩ = some (.slice AQ Q.length cQ) ∧ w'.cell? ⟨bC, 2, none⟩ = some (.int .i64 cyc) ∧ w'.cell? ⟨bC, 3, none⟩ = some (.int .i64 60) ∧ w'.cell? ⟨bC, 4, none⟩ = some (.int .i64 100) ∧ w'.cell? ⟨bC, 5, none⟩ = some (.int .i64 wd) ∧ w'.cell? ⟨bC, 6, none⟩ = some (.int .i64 dr) ∧ w'.cell? ⟨bC, 7, none⟩ = some (.int .i64 300000) ∧ w'.cell? ⟨bC, 8, none⟩ = some (.int .i64 ag) ∧ w'.cell? ⟨bC, 9, none⟩ = some (.int .i64 lo) ∧ w'.cell? ⟨bC, 10, none⟩ = some (.int .i64 li) ∧ w'.cell? ⟨bC, 11, none⟩ = some (.int .i64 sp) ∧ w'.cell? ⟨bC, 12, none⟩ = some (.int .i64 12)) (ds := []) #[false, false, false, false, false, false, false, false, false, false, false, false, false, false, false, false, false, false, false, false, false, false, false, false, false, false, false, false, false, false, false, false, false, false, false, false] (by kernel_rfl) rfl rfl ⟨dd0, dd1, dd2, dd3, dd4, dd5, dd6, dd7, dd8, dd9, dd10, dd11, dd12, dd13, dd14, dd15, dd16⟩ (fun hHeld => ?_)
      refine pu 0 111 ?_
      refine pu 1 112 ?_
      refine pu 2 113 ?_
      refine pu 5 116 ?_
      refine pu 6 117 ?_
      refine pu 7 118 ?_
      refine tk17 3 114 ?_
      refine tk17 8 119 ?_
      refine on 4 115 (fun K hK => ?_)
      refine goes_ Tryz.func20 (by kernel_rfl) rfl #[.agg #[.slice A5 y.f0.length c5, .bool y.f1.f0, .int .i64 y.f1.f1, .slice B5 y.f1.f2.length d5]] (by rfl) rfl rfl lm ?_
      with_reducible refine (watch_Agree.calls A5 c5 y.f0 y.f1.f0 y.f1.f1 B5 d5 y.f1.f2 _ _ (HYA.out.below K4.out).r0 (HYA.out.below K4.out).c0 (HYA.out.below K4.out).r3 (HYA.out.below K4.out).c3 S5.out).mono ?_
      rintro e w23 ⟨rfl, hbK5⟩
      have K5 := am (below_step K4.out hbK5)
      have qa_0 := (hbK5.cell (c_lt dd0)).trans dd0
      have qa_1 := (hbK5.cell (c_lt dd1)).trans dd1
      have qa_2 := (hbK5.cell (c_lt dd2)).trans dd2
      have qa_3 := (hbK5.cell (c_lt dd3)).trans dd3
      have qa_4 := (hbK5.cell (c_lt dd4)).trans dd4
      have qa_5 := (hbK5.cell (c_lt dd5)).trans dd5
      have qa_6 := (hbK5.cell (c_lt dd6)).trans dd6
      have qa_7 := (hbK5.cell (c_lt dd7)).trans dd7
      have qa_8 := (hbK5.cell (c_lt dd8)).trans dd8
      have qa_9 := (hbK5.cell (c_lt dd9)).trans dd9
      have qa_10 := (hbK5.cell (c_lt dd10)).trans dd10
      have qa_11 := (hbK5.cell (c_lt dd11)).trans dd11
      have qa_12 := (hbK5.cell (c_lt dd12)).trans dd12
      have qa_13 := (hbK5.cell (c_lt dd13)).trans dd13
      have qa_14 := (hbK5.cell (c_lt dd14)).trans dd14
      have qa_15 := (hbK5.cell (c_lt dd15)).trans dd15
      have qa_16 := (hbK5.cell (c_lt dd16)).trans dd16
      clear hbK5
      refine ⟨_, rfl, ?_⟩
      clear hHeld
      refine hK.out _ _ ⟨qa_0, qa_1, qa_2, qa_3, qa_4, qa_5, qa_6, qa_7, qa_8, qa_9, qa_10, qa_11, qa_12, qa_13, qa_14, qa_15, qa_16⟩ (fun hHeld => ?_)
      clear hK K
      refine norm_ (a' := ?_) ?_ ?_
      rotate_left
      ·show Act.put _ (some 115) _ = _
       simp only [Act.put, sAa, sBb, sCc, i64_w, i32_w]
       rfl
      refine on 9 120 (fun K hK => ?_)
      refine goes_ Tryz.func21 (by kernel_rfl) rfl #[.agg #[.slice A5 y.f0.length c5, .bool y.f1.f0, .int .i64 y.f1.f1, .slice B5 y.f1.f2.length d5]] (by rfl) rfl rfl lm ?_
      with_reducible refine (dr26_Agree.calls A5 c5 y.f0 y.f1.f0 y.f1.f1 B5 d5 y.f1.f2 _ _ (HYA.out.below K5.out).r0 (HYA.out.below K5.out).c0 (HYA.out.below K5.out).r3 (HYA.out.below K5.out).c3 S6.out).mono ?_
      rintro e w24 ⟨rfl, hbK6⟩
      have K6 := am (below_step K5.out hbK6)
      have qb_0 := (hbK6.cell (c_lt qa_0)).trans qa_0
      have qb_1 := (hbK6.cell (c_lt qa_1)).trans qa_1
      have qb_2 := (hbK6.cell (c_lt qa_2)).trans qa_2
      have qb_3 := (hbK6.cell (c_lt qa_3)).trans qa_3
      have qb_4 := (hbK6.cell (c_lt qa_4)).trans qa_4
      have qb_5 := (hbK6.cell (c_lt qa_5)).trans qa_5
      have qb_6 := (hbK6.cell (c_lt qa_6)).trans qa_6
      have qb_7 := (hbK6.cell (c_lt qa_7)).trans qa_7
      have qb_8 := (hbK6.cell (c_lt qa_8)).trans qa_8
      have qb_9 := (hbK6.cell (c_lt qa_9)).trans qa_9
      have qb_10 := (hbK6.cell (c_lt qa_10)).trans qa_10
      have qb_11 := (hbK6.cell (c_lt qa_11)).trans qa_11
      have qb_12 := (hbK6.cell (c_lt qa_12)).trans qa_12
      have qb_13 := (hbK6.cell (c_lt qa_13)).trans qa_13
      have qb_14 := (hbK6.cell (c_lt qa_14)).trans qa_14
      have qb_15 := (hbK6.cell (c_lt qa_15)).trans qa_15
      have qb_16 := (hbK6.cell (c_lt qa_16)).trans qa_16
      clear hbK6
      refine ⟨_, rfl, ?_⟩
      clear hHeld
      refine hK.out _ _ ⟨qb_0, qb_1, qb_2, qb_3, qb_4, qb_5, qb_6, qb_7, qb_8, qb_9, qb_10, qb_11, qb_12, qb_13, qb_14, qb_15, qb_16⟩ (fun hHeld => ?_)
      clear hK K
      refine norm_ (a' := ?_) ?_ ?_
      rotate_left
      ·show Act.put _ (some 120) _ = _
       simp only [Act.put, sAa, sBb, sCc, i64_w, i32_w]
       rfl
      refine pu 10 121 ?_
      refine pu 11 122 ?_
      refine pu 13 124 ?_
      refine pu 14 125 ?_
      refine pu 15 126 ?_
      refine pu 19 130 ?_
      refine pu 20 131 ?_
      refine pu 21 132 ?_
      refine tk17 12 123 ?_
      refine tk17 16 127 ?_
      refine tk17 18 129 ?_
      refine tk17 22 133 ?_
      refine on 17 128 (fun K hK => ?_)
      refine goes_ Tryz.func11 (by kernel_rfl) rfl #[.agg #[.slice AP P.length cP, .slice AQ Q.length cQ, .int .i64 cyc, .int .i64 60, .int .i64 100, .int .i64 wd, .int .i64 dr, .int .i64 300000, .int .i64 ag, .int .i64 lo, .int .i64 li, .int .i64 sp, .int .i64 12], .agg #[.slice A5 y.f0.length c5, .bool y.f1.f0, .int .i64 y.f1.f1, .slice B5 y.f1.f2.length d5]] (by rfl) rfl rfl lm ?_
      with_reducible refine (S7.out _ (HNW.out.below K6.out) (HYA.out.below K6.out)).mono ?_
      rintro e w25 ⟨rfl, hbK7⟩
      have K7 := am (below_step K6.out hbK7)
      have qc_0 := (hbK7.cell (c_lt qb_0)).trans qb_0
      have qc_1 := (hbK7.cell (c_lt qb_1)).trans qb_1
      have qc_2 := (hbK7.cell (c_lt qb_2)).trans qb_2
      have qc_3 := (hbK7.cell (c_lt qb_3)).trans qb_3
      have qc_4 := (hbK7.cell (c_lt qb_4)).trans qb_4
      have qc_5 := (hbK7.cell (c_lt qb_5)).trans qb_5
      have qc_6 := (hbK7.cell (c_lt qb_6)).trans qb_6
      have qc_7 := (hbK7.cell (c_lt qb_7)).trans qb_7
      have qc_8 := (hbK7.cell (c_lt qb_8)).trans qb_8
      have qc_9 := (hbK7.cell (c_lt qb_9)).trans qb_9
      have qc_10 := (hbK7.cell (c_lt qb_10)).trans qb_10
      have qc_11 := (hbK7.cell (c_lt qb_11)).trans qb_11
      have qc_12 := (hbK7.cell (c_lt qb_12)).trans qb_12
      have qc_13 := (hbK7.cell (c_lt qb_13)).trans qb_13
      have qc_14 := (hbK7.cell (c_lt qb_14)).trans qb_14
      have qc_15 := (hbK7.cell (c_lt qb_15)).trans qb_15
      have qc_16 := (hbK7.cell (c_lt qb_16)).trans qb_16
      clear hbK7
      refine ⟨_, rfl, ?_⟩
      clear hHeld
      refine hK.out _ _ ⟨qc_0, qc_1, qc_2, qc_3, qc_4, qc_5, qc_6, qc_7, qc_8, qc_9, qc_10, qc_11, qc_12, qc_13, qc_14, qc_15, qc_16⟩ (fun hHeld => ?_)
      clear hK K
      refine norm_ (a' := ?_) ?_ ?_
      rotate_left
      ·show Act.put _ (some 128) _ = _
       simp only [Act.put, sAa, sBb, sCc, i64_w, i32_w]
       rfl
      refine on 23 134 (fun K hK => ?_)
      refine goes_ Tryz.func12 (by kernel_rfl) rfl #[.agg #[.slice AP P.length cP, .slice AQ Q.length cQ, .int .i64 cyc, .int .i64 60, .int .i64 100, .int .i64 wd, .int .i64 dr, .int .i64 300000, .int .i64 ag, .int .i64 lo, .int .i64 li, .int .i64 sp, .int .i64 12], .agg #[.slice A5 y.f0.length c5, .bool y.f1.f0, .int .i64 y.f1.f1, .slice B5 y.f1.f2.length d5]] (by rfl) rfl rfl lm ?_
      with_reducible refine (dr26_Within.calls k8 AP cP P AQ cQ Q cyc 60 100 wd dr 300000 ag lo li sp 12 A5 c5 y.f0 y.f1.f0 y.f1.f1 B5 d5 y.f1.f2 _ _ (HNW.out.below K7.out).p (HNW.out.below K7.out).cp (HNW.out.below K7.out).q (HNW.out.below K7.out).cq (HYA.out.below K7.out).r0 (HYA.out.below K7.out).c0 (HYA.out.below K7.out).r3 (HYA.out.below K7.out).c3 S8.out).mono ?_
      rintro e w26 ⟨rfl, hbKZ⟩
      have KZ := am (below_step K7.out hbKZ)
      have qd_0 := (hbKZ.cell (c_lt qc_0)).trans qc_0
      have qd_1 := (hbKZ.cell (c_lt qc_1)).trans qc_1
      have qd_2 := (hbKZ.cell (c_lt qc_2)).trans qc_2
      have qd_3 := (hbKZ.cell (c_lt qc_3)).trans qc_3
      have qd_4 := (hbKZ.cell (c_lt qc_4)).trans qc_4
      have qd_5 := (hbKZ.cell (c_lt qc_5)).trans qc_5
      have qd_6 := (hbKZ.cell (c_lt qc_6)).trans qc_6
      have qd_7 := (hbKZ.cell (c_lt qc_7)).trans qc_7
      have qd_8 := (hbKZ.cell (c_lt qc_8)).trans qc_8
      have qd_9 := (hbKZ.cell (c_lt qc_9)).trans qc_9
      have qd_10 := (hbKZ.cell (c_lt qc_10)).trans qc_10
      have qd_11 := (hbKZ.cell (c_lt qc_11)).trans qc_11
      have qd_12 := (hbKZ.cell (c_lt qc_12)).trans qc_12
      have qd_13 := (hbKZ.cell (c_lt qc_13)).trans qc_13
      have qd_14 := (hbKZ.cell (c_lt qc_14)).trans qc_14
      have qd_15 := (hbKZ.cell (c_lt qc_15)).trans qc_15
      have qd_16 := (hbKZ.cell (c_lt qc_16)).trans qc_16
      clear hbKZ
      refine ⟨_, rfl, ?_⟩
      clear hHeld
      refine hK.out _ _ ⟨qd_0, qd_1, qd_2, qd_3, qd_4, qd_5, qd_6, qd_7, qd_8, qd_9, qd_10, qd_11, qd_12, qd_13, qd_14, qd_15, qd_16⟩ (fun hHeld => ?_)
      clear hK K
      refine norm_ (a' := ?_) ?_ ?_
      rotate_left
      ·show Act.put _ (some 134) _ = _
       simp only [Act.put, sAa, sBb, sCc, i64_w, i32_w]
       rfl
      refine pu 24 135 ?_
      refine pu 25 136 ?_
      refine pu 26 137 ?_
      refine pu 27 138 ?_
      refine pu 28 139 ?_
      refine pu 29 140 ?_
      refine pu 30 141 ?_
      refine pu 31 142 ?_
      refine pu 32 143 ?_
      refine pu 33 144 ?_
      refine pu 34 145 ?_
      refine pu 35 146 ?_
      refine done_ (by kernel_rfl) ?_
      clear hHeld
      go_wp2_with fail
      go_roundg k2
      case measure => have := HJ.out; omega
      case rel => exact ⟨i + 1, by first | rfl | rw [w1i] | (congr 1), ⟨by have := HJ.out; omega⟩, ⟨below_step HW8.out KZ.out⟩⟩
     ·have d1 : decide (i < cs.length) = false := dF hi
      go_wp2_with fail
      go_ret
      exact ⟨rfl, below_step HBA.out HW8.out⟩
end Go.Proofs.YtbefbhghmommhaaGreatDoor.MWo
