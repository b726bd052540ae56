/- Texts of this claim, laid together by a program (wip/g/merge3.py): HWw. -/
import Derived.Test.YtbefbhghmommhaaGreatDoorZWa27
set_option linter.unusedVariables false
set_option linter.unusedSimpArgs false
set_option maxRecDepth 100000
namespace Go.Proofs.YtbefbhghmommhaaGreatDoor.MWo
open Go.RowKit Go.Proofs.YtbefbhghmommhaaGreatDoorW.PrintWords Go.Proofs.YtbefbhghmommhaaGreatDoorW.PrintLast Go.Proofs.YtbefbhghmommhaaGreatDoorW.PrintMore Go.Proofs.YtbefbhghmommhaaGreatDoor.Evl
set_option maxHeartbeats 4000000 in
theorem within_walk (AP : Option Addr) (cP : Nat) (P : List S68) (AQ : Option Addr) (cQ : Nat) (Q : List S71) (a2 a3 a4 a5 a6 a7 a8 a9 a10 a11 a12 : Int) (A : Option Addr) (c : Nat) (xs : List S55) (on : Bool) (st : Int) (A3 : Option Addr) (c3 : Nat) (ag : List Int) (nr : Int) (w : World) (hN : NetAt w P AP cP Q AQ cQ) (hX : CellAt w ⟨xs, ⟨on, st, ag⟩⟩ A c A3 c3) (hl : xs.length ≤ 1000) (hx : ∀ z ∈ xs, z.f5.length ≤ 1000000)
  (hn : bounds_Near.f P Q a2 a3 a4 a5 a6 a7 a8 a9 a10 a11 a12 = some nr) :
  Calls Tryz.prog 11 #[.agg #[.slice AP P.length cP, .slice AQ Q.length cQ, .int .i64 a2, .int .i64 a3, .int .i64 a4, .int .i64 a5, .int .i64 a6, .int .i64 a7, .int .i64 a8, .int .i64 a9, .int .i64 a10, .int .i64 a11, .int .i64 a12], .agg #[.slice A xs.length c, .bool on, .int .i64 st, .slice A3 ag.length c3]] w fun e w' => e = .returned (.bool (withinV nr xs (begs xs on st))) ∧ Below w.heap.size w w' := by
 have HKN := am hn
 have HN := am hN
 have HX := am hX
 have HS := am (And.intro hl hx)
 clear hN hX hl hx hn
 have b1 := below_alloc (Below.refl w.heap.size w) (.cells #[.slice AP P.length cP, .slice AQ Q.length cQ, .int .i64 a2, .int .i64 a3, .int .i64 a4, .int .i64 a5, .int .i64 a6, .int .i64 a7, .int .i64 a8, .int .i64 a9, .int .i64 a10, .int .i64 a11, .int .i64 a12] 25)
 have b2 := below_alloc b1 (.cells #[.slice A xs.length c, .bool on, .int .i64 st, .slice A3 ag.length c3] 37)
 have hsz : (w.alloc (.cells #[.slice AP P.length cP, .slice AQ Q.length cQ, .int .i64 a2, .int .i64 a3, .int .i64 a4, .int .i64 a5, .int .i64 a6, .int .i64 a7, .int .i64 a8, .int .i64 a9, .int .i64 a10, .int .i64 a11, .int .i64 a12] 25)).heap.size = w.heap.size + 1 := Array.size_push _
 have HBN : Aside0 (((w.alloc (.cells #[.slice AP P.length cP, .slice AQ Q.length cQ, .int .i64 a2, .int .i64 a3, .int .i64 a4, .int .i64 a5, .int .i64 a6, .int .i64 a7, .int .i64 a8, .int .i64 a9, .int .i64 a10, .int .i64 a11, .int .i64 a12] 25)).alloc (.cells #[.slice A xs.length c, .bool on, .int .i64 st, .slice A3 ag.length c3] 37)).heap[w.heap.size]? = some (.cells #[.slice AP P.length cP, .slice AQ Q.length cQ, .int .i64 a2, .int .i64 a3, .int .i64 a4, .int .i64 a5, .int .i64 a6, .int .i64 a7, .int .i64 a8, .int .i64 a9, .int .i64 a10, .int .i64 a11, .int .i64 a12] 25 (0, 0))) := ⟨((below_alloc (Below.refl _ _) _).block w.heap.size (blk_lt (heap_alloc_new w _))).trans (heap_alloc_new w _)⟩
 have HBX : Aside0 (((w.alloc (.cells #[.slice AP P.length cP, .slice AQ Q.length cQ, .int .i64 a2, .int .i64 a3, .int .i64 a4, .int .i64 a5, .int .i64 a6, .int .i64 a7, .int .i64 a8, .int .i64 a9, .int .i64 a10, .int .i64 a11, .int .i64 a12] 25)).alloc (.cells #[.slice A xs.length c, .bool on, .int .i64 st, .slice A3 ag.length c3] 37)).heap[w.heap.size + 1]? = some (.cells #[.slice A xs.length c, .bool on, .int .i64 st, .slice A3 ag.length c3] 37 (0, 0))) := ⟨by have h := heap_alloc_new (w.alloc (.cells #[.slice AP P.length cP, .slice AQ Q.length cQ, .int .i64 a2, .int .i64 a3, .int .i64 a4, .int .i64 a5, .int .i64 a6, .int .i64 a7, .int .i64 a8, .int .i64 a9, .int .i64 a10, .int .i64 a11, .int .i64 a12] 25)) (.cells #[.slice A xs.length c, .bool on, .int .i64 st, .slice A3 ag.length c3] 37); rwa [hsz] at h⟩
 have HB := am b2
 clear b1 b2 hsz
 go_enter Tryz.func11, Tryz.ntmps11
 go_upto_region 1 with fail
 generalize (w.alloc (.cells #[.slice AP P.length cP, .slice AQ Q.length cQ, .int .i64 a2, .int .i64 a3, .int .i64 a4, .int .i64 a5, .int .i64 a6, .int .i64 a7, .int .i64 a8, .int .i64 a9, .int .i64 a10, .int .i64 a11, .int .i64 a12] 25)).alloc (.cells #[.slice A xs.length c, .bool on, .int .i64 st, .slice A3 ag.length c3] 37) = w1 at *
 have ca0 : w1.cell? ⟨w.heap.size, 0, none⟩ = some (.slice AP P.length cP) := (blk_cell HBN.out 0).trans rfl
 have ca1 : w1.cell? ⟨w.heap.size, 1, none⟩ = some (.slice AQ Q.length cQ) := (blk_cell HBN.out 1).trans rfl
 have ca2 : w1.cell? ⟨w.heap.size, 2, none⟩ = some (.int .i64 a2) := (blk_cell HBN.out 2).trans rfl
 have ca3 : w1.cell? ⟨w.heap.size, 3, none⟩ = some (.int .i64 a3) := (blk_cell HBN.out 3).trans rfl
 have ca4 : w1.cell? ⟨w.heap.size, 4, none⟩ = some (.int .i64 a4) := (blk_cell HBN.out 4).trans rfl
 have ca5 : w1.cell? ⟨w.heap.size, 5, none⟩ = some (.int .i64 a5) := (blk_cell HBN.out 5).trans rfl
 have ca6 : w1.cell? ⟨w.heap.size, 6, none⟩ = some (.int .i64 a6) := (blk_cell HBN.out 6).trans rfl
 have ca7 : w1.cell? ⟨w.heap.size, 7, none⟩ = some (.int .i64 a7) := (blk_cell HBN.out 7).trans rfl
 have ca8 : w1.cell? ⟨w.heap.size, 8, none⟩ = some (.int .i64 a8) := (blk_cell HBN.out 8).trans rfl
 have ca9 : w1.cell? ⟨w.heap.size, 9, none⟩ = some (.int .i64 a9) := (blk_cell HBN.out 9).trans rfl
 have ca10 : w1.cell? ⟨w.heap.size, 10, none⟩ = some (.int .i64 a10) := (blk_cell HBN.out 10).trans rfl
 have ca11 : w1.cell? ⟨w.heap.size, 11, none⟩ = some (.int .i64 a11) := (blk_cell HBN.out 11).trans rfl
 have ca12 : w1.cell? ⟨w.heap.size, 12, none⟩ = some (.int .i64 a12) := (blk_cell HBN.out 12).trans rfl
 have cb0 : w1.cell? ⟨w.heap.size + 1, 0, none⟩ = some (.slice A xs.length c) := (blk_cell HBX.out 0).trans rfl
 have cb1 : w1.cell? ⟨w.heap.size + 1, 1, none⟩ = some (.bool on) := (blk_cell HBX.out 1).trans rfl
 have cb2 : w1.cell? ⟨w.heap.size + 1, 2, none⟩ = some (.int .i64 st) := (blk_cell HBX.out 2).trans rfl
 have cb3 : w1.cell? ⟨w.heap.size + 1, 3, none⟩ = some (.slice A3 ag.length c3) := (blk_cell HBX.out 3).trans rfl
 go_wp2_with fail
 clear ca0 ca1 ca2 ca3 ca4 ca5 ca6 ca7 ca8 ca9 ca10 ca11 ca12 cb0 cb1 cb2 cb3
 have HSZ := am HB.out.size
 refine (starts_walk A c xs on st A3 c3 ag w1 (HX.out.below HB.out).r0 (HX.out.below HB.out).c0 (HX.out.below HB.out).r3 (HX.out.below HB.out).c3 (by have := HS.out.1; omega)).mono ?_
 rintro e w2 ⟨v, rfl, ho, hb⟩
 obtain ⟨L, hL⟩ : ∃ L, (syn xs).map (·.f3) = L := ⟨_, rfl⟩
 have HOL : Aside0 (L.length ≤ 1000) := ⟨by have := syn_len xs; have := HS.out.1; rw [← hL, List.length_map]; omega⟩
 rw [hL] at ho
 have HVL := am hL
 clear hL
 have HLw := am hb
 have HB_ := am (below_step HB.out HLw.out)
 have HBN_ := am ((HLw.out.block w.heap.size (blk_lt HBN.out)).trans HBN.out)
 have HBX_ := am ((HLw.out.block (w.heap.size + 1) (blk_lt HBX.out)).trans HBX.out)
 clear HB HBN HBX
 have HB := HB_
 have HBN := HBN_
 have HBX := HBX_
 clear HB_ HBN_ HBX_
 clear hb
 obtain ⟨A2, c2, rfl⟩ := Kd.R_slice ho
 have HO := am ho
 have HNE := am (And.intro (Kd.R_ne ho HBN.out (by decide)) (Kd.R_ne ho HBX.out (by decide)))
 clear ho
 cases on with
 | false =>
  have ca0 : w2.cell? ⟨w.heap.size, 0, none⟩ = some (.slice AP P.length cP) := (blk_cell HBN.out 0).trans rfl
  have ca1 : w2.cell? ⟨w.heap.size, 1, none⟩ = some (.slice AQ Q.length cQ) := (blk_cell HBN.out 1).trans rfl
  have ca2 : w2.cell? ⟨w.heap.size, 2, none⟩ = some (.int .i64 a2) := (blk_cell HBN.out 2).trans rfl
  have ca3 : w2.cell? ⟨w.heap.size, 3, none⟩ = some (.int .i64 a3) := (blk_cell HBN.out 3).trans rfl
  have ca4 : w2.cell? ⟨w.heap.size, 4, none⟩ = some (.int .i64 a4) := (blk_cell HBN.out 4).trans rfl
  have ca5 : w2.cell? ⟨w.heap.size, 5, none⟩ = some (.int .i64 a5) := (blk_cell HBN.out 5).trans rfl
  have ca6 : w2.cell? ⟨w.heap.size, 6, none⟩ = some (.int .i64 a6) := (blk_cell HBN.out 6).trans rfl
  have ca7 : w2.cell? ⟨w.heap.size, 7, none⟩ = some (.int .i64 a7) := (blk_cell HBN.out 7).trans rfl
  have ca8 : w2.cell? ⟨w.heap.size, 8, none⟩ = some (.int .i64 a8) := (blk_cell HBN.out 8).trans rfl
  have ca9 : w2.cell? ⟨w.heap.size, 9, none⟩ = some (.int .i64 a9) := (blk_cell HBN.out 9).trans rfl
  have ca10 : w2.cell? ⟨w.heap.size, 10, none⟩ = some (.int .i64 a10) := (blk_cell HBN.out 10).trans rfl
  have ca11 : w2.cell? ⟨w.heap.size, 11, none⟩ = some (.int .i64 a11) := (blk_cell HBN.out 11).trans rfl
  have ca12 : w2.cell? ⟨w.heap.size, 12, none⟩ = some (.int .i64 a12) := (blk_cell HBN.out 12).trans rfl
  have cb0 : w2.cell? ⟨w.heap.size + 1, 0, none⟩ = some (.slice A xs.length c) := (blk_cell HBX.out 0).trans rfl
  have cb1 : w2.cell? ⟨w.heap.size + 1, 1, none⟩ = some (.bool false) := (blk_cell HBX.out 1).trans rfl
  have cb2 : w2.cell? ⟨w.heap.size + 1, 2, none⟩ = some (.int .i64 st) := (blk_cell HBX.out 2).trans rfl
  have cb3 : w2.cell? ⟨w.heap.size + 1, 3, none⟩ = some (.slice A3 ag.length c3) := (blk_cell HBX.out 3).trans rfl
  have HLL : Aside0 (L.length ≤ 1001) := ⟨by have := HOL.out; omega⟩
  have hrr := Kd.R_reads' HO.out
  have HL := am hrr.2.2
  have HLc := am hrr.2.1
  clear hrr HO HOL
  go_upto_region 4 with fail
  go_wp2_with fail
  have HV : Aside0 (withinV nr xs (begs xs false st) = if agreeB xs = true then (if L = [] then true else if (sprd L).2 = true then decide ((sprd L).1 ≤ nr) else false) else false) := ⟨by rw [← HVL.out]; rfl⟩
  clear HVL
  refine (gspread_walk A2 c2 L w2 HL.out (by have := HLL.out; omega)).mono ?_
  rintro e w6 ⟨rfl, rfl⟩
  go_upto_region 5 with fail
  clear ca0 ca1 ca2 ca3 ca4 ca5 ca6 ca7 ca8 ca9 ca10 ca11 ca12 cb0 cb1 cb2 cb3
  have ca0 : w6.cell? ⟨w.heap.size, 0, none⟩ = some (.slice AP P.length cP) := (blk_cell HBN.out 0).trans rfl
  have ca1 : w6.cell? ⟨w.heap.size, 1, none⟩ = some (.slice AQ Q.length cQ) := (blk_cell HBN.out 1).trans rfl
  have ca2 : w6.cell? ⟨w.heap.size, 2, none⟩ = some (.int .i64 a2) := (blk_cell HBN.out 2).trans rfl
  have ca3 : w6.cell? ⟨w.heap.size, 3, none⟩ = some (.int .i64 a3) := (blk_cell HBN.out 3).trans rfl
  have ca4 : w6.cell? ⟨w.heap.size, 4, none⟩ = some (.int .i64 a4) := (blk_cell HBN.out 4).trans rfl
  have ca5 : w6.cell? ⟨w.heap.size, 5, none⟩ = some (.int .i64 a5) := (blk_cell HBN.out 5).trans rfl
  have ca6 : w6.cell? ⟨w.heap.size, 6, none⟩ = some (.int .i64 a6) := (blk_cell HBN.out 6).trans rfl
  have ca7 : w6.cell? ⟨w.heap.size, 7, none⟩ = some (.int .i64 a7) := (blk_cell HBN.out 7).trans rfl
  have ca8 : w6.cell? ⟨w.heap.size, 8, none⟩ = some (.int .i64 a8) := (blk_cell HBN.out 8).trans rfl
  have ca9 : w6.cell? ⟨w.heap.size, 9, none⟩ = some (.int .i64 a9) := (blk_cell HBN.out 9).trans rfl
  have ca10 : w6.cell? ⟨w.heap.size, 10, none⟩ = some (.int .i64 a10) := (blk_cell HBN.out 10).trans rfl
  have ca11 : w6.cell? ⟨w.heap.size, 11, none⟩ = some (.int .i64 a11) := (blk_cell HBN.out 11).trans rfl
  have ca12 : w6.cell? ⟨w.heap.size, 12, none⟩ = some (.int .i64 a12) := (blk_cell HBN.out 12).trans rfl
  have cb0 : w6.cell? ⟨w.heap.size + 1, 0, none⟩ = some (.slice A xs.length c) := (blk_cell HBX.out 0).trans rfl
  have cb1 : w6.cell? ⟨w.heap.size + 1, 1, none⟩ = some (.bool false) := (blk_cell HBX.out 1).trans rfl
  have cb2 : w6.cell? ⟨w.heap.size + 1, 2, none⟩ = some (.int .i64 st) := (blk_cell HBX.out 2).trans rfl
  have cb3 : w6.cell? ⟨w.heap.size + 1, 3, none⟩ = some (.slice A3 ag.length c3) := (blk_cell HBX.out 3).trans rfl
  go_wp2_with fail
  clear ca0 ca1 ca2 ca3 ca4 ca5 ca6 ca7 ca8 ca9 ca10 ca11 ca12 cb0 cb1 cb2 cb3
  refine (agree_walk A c xs false st A3 c3 ag w6 (HX.out.below HB.out).r0 (HX.out.below HB.out).c0 (HX.out.below HB.out).r3 (HX.out.below HB.out).c3 (by have := HS.out.1; omega) HS.out.2).mono ?_
  rintro e w7 ⟨rfl, hb⟩
  have HLy := am hb
  have HB_ := am (below_step HB.out HLy.out)
  have HBN_ := am ((HLy.out.block w.heap.size (blk_lt HBN.out)).trans HBN.out)
  have HBX_ := am ((HLy.out.block (w.heap.size + 1) (blk_lt HBX.out)).trans HBX.out)
  clear HB HBN HBX
  have HB := HB_
  have HBN := HBN_
  have HBX := HBX_
  clear HB_ HBN_ HBX_
  clear hb
  have ca0 : w7.cell? ⟨w.heap.size, 0, none⟩ = some (.slice AP P.length cP) := (blk_cell HBN.out 0).trans rfl
  have ca1 : w7.cell? ⟨w.heap.size, 1, none⟩ = some (.slice AQ Q.length cQ) := (blk_cell HBN.out 1).trans rfl
  have ca2 : w7.cell? ⟨w.heap.size, 2, none⟩ = some (.int .i64 a2) := (blk_cell HBN.out 2).trans rfl
  have ca3 : w7.cell? ⟨w.heap.size, 3, none⟩ = some (.int .i64 a3) := (blk_cell HBN.out 3).trans rfl
  have ca4 : w7.cell? ⟨w.heap.size, 4, none⟩ = some (.int .i64 a4) := (blk_cell HBN.out 4).trans rfl
  have ca5 : w7.cell? ⟨w.heap.size, 5, none⟩ = some (.int .i64 a5) := (blk_cell HBN.out 5).trans rfl
  have ca6 : w7.cell? ⟨w.heap.size, 6, none⟩ = some (.int .i64 a6) := (blk_cell HBN.out 6).trans rfl
  have ca7 : w7.cell? ⟨w.heap.size, 7, none⟩ = some (.int .i64 a7) := (blk_cell HBN.out 7).trans rfl
  have ca8 : w7.cell? ⟨w.heap.size, 8, none⟩ = some (.int .i64 a8) := (blk_cell HBN.out 8).trans rfl
  have ca9 : w7.cell? ⟨w.heap.size, 9, none⟩ = some (.int .i64 a9) := (blk_cell HBN.out 9).trans rfl
  have ca10 : w7.cell? ⟨w.heap.size, 10, none⟩ = some (.int .i64 a10) := (blk_cell HBN.out 10).trans rfl
  have ca11 : w7.cell? ⟨w.heap.size, 11, none⟩ = some (.int .i64 a11) := (blk_cell HBN.out 11).trans rfl
  have ca12 : w7.cell? ⟨w.heap.size, 12, none⟩ = some (.int .i64 a12) := (blk_cell HBN.out 12).trans rfl
  have cb0 : w7.cell? ⟨w.heap.size + 1, 0, none⟩ = some (.slice A xs.length c) := (blk_cell HBX.out 0).trans rfl
  have cb1 : w7.cell? ⟨w.heap.size + 1, 1, none⟩ = some (.bool false) := (blk_cell HBX.out 1).trans rfl
  have cb2 : w7.cell? ⟨w.heap.size + 1, 2, none⟩ = some (.int .i64 st) := (blk_cell HBX.out 2).trans rfl
  have cb3 : w7.cell? ⟨w.heap.size + 1, 3, none⟩ = some (.slice A3 ag.length c3) := (blk_cell HBX.out 3).trans rfl
  cases hqa : agreeB xs with
  | false =>
   rw [hqa] at HV
   go_wp2_with fail
   go_ret
   refine ⟨?_, HB.out⟩
   rw [HV.out]
   rfl
  | true =>
   rw [hqa] at HV
   by_cases h0 : L = []
   ·have hl0 : ((L.length : Int) == 0) = true := by simp [h0]
    have HL0 := am h0
    clear h0
    go_wp2_with fail
    go_ret
    refine ⟨?_, HB.out⟩
    rw [HV.out]
    simp only [if_true, if_pos HL0.out]
    rfl
   ·have hl0 : ((L.length : Int) == 0) = false := by have := List.length_pos_iff.2 h0; simp; omega
    have HL0 := am h0
    clear h0
    cases hok : (sprd L).2 with
    | false =>
     rw [hok] at HV
     go_wp2_with fail
     go_ret
     refine ⟨?_, HB.out⟩
     rw [HV.out]
     simp only [if_true, if_neg HL0.out]
     rfl
    | true =>
     rw [hok] at HV
     go_wp2_with fail
     clear ca0 ca1 ca2 ca3 ca4 ca5 ca6 ca7 ca8 ca9 ca10 ca11 ca12 cb0 cb1 cb2 cb3
     refine (bounds_Near.calls AP cP P AQ cQ Q a2 a3 a4 a5 a6 a7 a8 a9 a10 a11 a12 _ w7 (HN.out.below HB.out).p (HN.out.below HB.out).cp (HN.out.below HB.out).q (HN.out.below HB.out).cq HKN.out).mono ?_
     rintro e w8 ⟨rfl, hb⟩
     have HLz := am hb
     have HB_ := am (below_step HB.out HLz.out)
     have HBN_ := am ((HLz.out.block w.heap.size (blk_lt HBN.out)).trans HBN.out)
     have HBX_ := am ((HLz.out.block (w.heap.size + 1) (blk_lt HBX.out)).trans HBX.out)
     clear HB HBN HBX
     have HB := HB_
     have HBN := HBN_
     have HBX := HBX_
     clear HB_ HBN_ HBX_
     clear hb
     go_wp2_with fail
     go_ret
     refine ⟨?_, HB.out⟩
     rw [HV.out]
     simp only [if_true, if_neg HL0.out]
     rfl
 | true =>
  have ca0 : w2.cell? ⟨w.heap.size, 0, none⟩ = some (.slice AP P.length cP) := (blk_cell HBN.out 0).trans rfl
  have ca1 : w2.cell? ⟨w.heap.size, 1, none⟩ = some (.slice AQ Q.length cQ) := (blk_cell HBN.out 1).trans rfl
  have ca2 : w2.cell? ⟨w.heap.size, 2, none⟩ = some (.int .i64 a2) := (blk_cell HBN.out 2).trans rfl
  have ca3 : w2.cell? ⟨w.heap.size, 3, none⟩ = some (.int .i64 a3) := (blk_cell HBN.out 3).trans rfl
  have ca4 : w2.cell? ⟨w.heap.size, 4, none⟩ = some (.int .i64 a4) := (blk_cell HBN.out 4).trans rfl
  have ca5 : w2.cell? ⟨w.heap.size, 5, none⟩ = some (.int .i64 a5) := (blk_cell HBN.out 5).trans rfl
  have ca6 : w2.cell? ⟨w.heap.size, 6, none⟩ = some (.int .i64 a6) := (blk_cell HBN.out 6).trans rfl
  have ca7 : w2.cell? ⟨w.heap.size, 7, none⟩ = some (.int .i64 a7) := (blk_cell HBN.out 7).trans rfl
  have ca8 : w2.cell? ⟨w.heap.size, 8, none⟩ = some (.int .i64 a8) := (blk_cell HBN.out 8).trans rfl
  have ca9 : w2.cell? ⟨w.heap.size, 9, none⟩ = some (.int .i64 a9) := (blk_cell HBN.out 9).trans rfl
  have ca10 : w2.cell? ⟨w.heap.size, 10, none⟩ = some (.int .i64 a10) := (blk_cell HBN.out 10).trans rfl
  have ca11 : w2.cell? ⟨w.heap.size, 11, none⟩ = some (.int .i64 a11) := (blk_cell HBN.out 11).trans rfl
  have ca12 : w2.cell? ⟨w.heap.size, 12, none⟩ = some (.int .i64 a12) := (blk_cell HBN.out 12).trans rfl
  have cb0 : w2.cell? ⟨w.heap.size + 1, 0, none⟩ = some (.slice A xs.length c) := (blk_cell HBX.out 0).trans rfl
  have cb1 : w2.cell? ⟨w.heap.size + 1, 1, none⟩ = some (.bool true) := (blk_cell HBX.out 1).trans rfl
  have cb2 : w2.cell? ⟨w.heap.size + 1, 2, none⟩ = some (.int .i64 st) := (blk_cell HBX.out 2).trans rfl
  have cb3 : w2.cell? ⟨w.heap.size + 1, 3, none⟩ = some (.slice A3 ag.length c3) := (blk_cell HBX.out 3).trans rfl
  obtain ⟨M, hM⟩ : ∃ M, L ++ [st] = M := ⟨_, rfl⟩
  have HLL : Aside0 (M.length ≤ 1001) := ⟨by have := HOL.out; rw [← hM, List.length_append, List.length_singleton]; omega⟩
  have HVM := am hM
  clear hM
  go_wp2_with (first | (refine Kd.R_append (Kd.int .i64) (w0 := w) w.heap.size rfl (.tmp 13) (.tmp 17) 61 2 (.int .i64 0) 8 rfl Tryz.underlying61 info2 rfl (by decide) (by omega) _ L st [.int .i64 st] (fun _ => True) (fun _ => False) rfl rfl ?aP (fun _ hk => hk.elim) ?aF ?aO ?aB ?aS ?aL ?_; (case aP => exact rfl); (case aB => exact HB.out); (case aF => exact (fun _ _ => trivial)); (case aO => exact Kd.R_lower HO.out HSZ.out); (case aS => exact HB.out.size); (case aL => have := HOL.out; omega); intro v1 w5 ho hb hg hat; rw [HVM.out] at ho; obtain ⟨A5, c5, e5⟩ := Kd.R_slice ho; subst e5; have HBN_ := am (blk_grown HBN.out hg HNE.out.1); have HBX_ := am (blk_grown HBX.out hg HNE.out.2); have HB_ := am hb; have hrr := Kd.R_reads' ho; have HL := am hrr.2.2; have HLc := am hrr.2.1; clear hrr ho hb hg hat HB HBN HBX HO HOL HSZ HNE; skip))
  have HB := HB_
  have HBN := HBN_
  have HBX := HBX_
  clear HB_ HBN_ HBX_
  have HV : Aside0 (withinV nr xs (begs xs true st) = if agreeB xs = true then (if M = [] then true else if (sprd M).2 = true then decide ((sprd M).1 ≤ nr) else false) else false) := ⟨by rw [← HVM.out, ← HVL.out]; rfl⟩
  clear HVL HVM
  refine (gspread_walk A5 c5 M w5 HL.out (by have := HLL.out; omega)).mono ?_
  rintro e w6 ⟨rfl, rfl⟩
  go_upto_region 5 with fail
  clear ca0 ca1 ca2 ca3 ca4 ca5 ca6 ca7 ca8 ca9 ca10 ca11 ca12 cb0 cb1 cb2 cb3
  have ca0 : w6.cell? ⟨w.heap.size, 0, none⟩ = some (.slice AP P.length cP) := (blk_cell HBN.out 0).trans rfl
  have ca1 : w6.cell? ⟨w.heap.size, 1, none⟩ = some (.slice AQ Q.length cQ) := (blk_cell HBN.out 1).trans rfl
  have ca2 : w6.cell? ⟨w.heap.size, 2, none⟩ = some (.int .i64 a2) := (blk_cell HBN.out 2).trans rfl
  have ca3 : w6.cell? ⟨w.heap.size, 3, none⟩ = some (.int .i64 a3) := (blk_cell HBN.out 3).trans rfl
  have ca4 : w6.cell? ⟨w.heap.size, 4, none⟩ = some (.int .i64 a4) := (blk_cell HBN.out 4).trans rfl
  have ca5 : w6.cell? ⟨w.heap.size, 5, none⟩ = some (.int .i64 a5) := (blk_cell HBN.out 5).trans rfl
  have ca6 : w6.cell? ⟨w.heap.size, 6, none⟩ = some (.int .i64 a6) := (blk_cell HBN.out 6).trans rfl
  have ca7 : w6.cell? ⟨w.heap.size, 7, none⟩ = some (.int .i64 a7) := (blk_cell HBN.out 7).trans rfl
  have ca8 : w6.cell? ⟨w.heap.size, 8, none⟩ = some (.int .i64 a8) := (blk_cell HBN.out 8).trans rfl
  have ca9 : w6.cell? ⟨w.heap.size, 9, none⟩ = some (.int .i64 a9) := (blk_cell HBN.out 9).trans rfl
  have ca10 : w6.cell? ⟨w.heap.size, 10, none⟩ = some (.int .i64 a10) := (blk_cell HBN.out 10).trans rfl
  have ca11 : w6.cell? ⟨w.heap.size, 11, none⟩ = some (.int .i64 a11) := (blk_cell HBN.out 11).trans rfl
  have ca12 : w6.cell? ⟨w.heap.size, 12, none⟩ = some (.int .i64 a12) := (blk_cell HBN.out 12).trans rfl
  have cb0 : w6.cell? ⟨w.heap.size + 1, 0, none⟩ = some (.slice A xs.length c) := (blk_cell HBX.out 0).trans rfl
  have cb1 : w6.cell? ⟨w.heap.size + 1, 1, none⟩ = some (.bool true) := (blk_cell HBX.out 1).trans rfl
  have cb2 : w6.cell? ⟨w.heap.size + 1, 2, none⟩ = some (.int .i64 st) := (blk_cell HBX.out 2).trans rfl
  have cb3 : w6.cell? ⟨w.heap.size + 1, 3, none⟩ = some (.slice A3 ag.length c3) := (blk_cell HBX.out 3).trans rfl
  go_wp2_with fail
  clear ca0 ca1 ca2 ca3 ca4 ca5 ca6 ca7 ca8 ca9 ca10 ca11 ca12 cb0 cb1 cb2 cb3
  refine (agree_walk A c xs true st A3 c3 ag w6 (HX.out.below HB.out).r0 (HX.out.below HB.out).c0 (HX.out.below HB.out).r3 (HX.out.below HB.out).c3 (by have := HS.out.1; omega) HS.out.2).mono ?_
  rintro e w7 ⟨rfl, hb⟩
  have HLy := am hb
  have HB_ := am (below_step HB.out HLy.out)
  have HBN_ := am ((HLy.out.block w.heap.size (blk_lt HBN.out)).trans HBN.out)
  have HBX_ := am ((HLy.out.block (w.heap.size + 1) (blk_lt HBX.out)).trans HBX.out)
  clear HB HBN HBX
  have HB := HB_
  have HBN := HBN_
  have HBX := HBX_
  clear HB_ HBN_ HBX_
  clear hb
  have ca0 : w7.cell? ⟨w.heap.size, 0, none⟩ = some (.slice AP P.length cP) := (blk_cell HBN.out 0).trans rfl
  have ca1 : w7.cell? ⟨w.heap.size, 1, none⟩ = some (.slice AQ Q.length cQ) := (blk_cell HBN.out 1).trans rfl
  have ca2 : w7.cell? ⟨w.heap.size, 2, none⟩ = some (.int .i64 a2) := (blk_cell HBN.out 2).trans rfl
  have ca3 : w7.cell? ⟨w.heap.size, 3, none⟩ = some (.int .i64 a3) := (blk_cell HBN.out 3).trans rfl
  have ca4 : w7.cell? ⟨w.heap.size, 4, none⟩ = some (.int .i64 a4) := (blk_cell HBN.out 4).trans rfl
  have ca5 : w7.cell? ⟨w.heap.size, 5, none⟩ = some (.int .i64 a5) := (blk_cell HBN.out 5).trans rfl
  have ca6 : w7.cell? ⟨w.heap.size, 6, none⟩ = some (.int .i64 a6) := (blk_cell HBN.out 6).trans rfl
  have ca7 : w7.cell? ⟨w.heap.size, 7, none⟩ = some (.int .i64 a7) := (blk_cell HBN.out 7).trans rfl
  have ca8 : w7.cell? ⟨w.heap.size, 8, none⟩ = some (.int .i64 a8) := (blk_cell HBN.out 8).trans rfl
  have ca9 : w7.cell? ⟨w.heap.size, 9, none⟩ = some (.int .i64 a9) := (blk_cell HBN.out 9).trans rfl
  have ca10 : w7.cell? ⟨w.heap.size, 10, none⟩ = some (.int .i64 a10) := (blk_cell HBN.out 10).trans rfl
  have ca11 : w7.cell? ⟨w.heap.size, 11, none⟩ = some (.int .i64 a11) := (blk_cell HBN.out 11).trans rfl
  have ca12 : w7.cell? ⟨w.heap.size, 12, none⟩ = some (.int .i64 a12) := (blk_cell HBN.out 12).trans rfl
  have cb0 : w7.cell? ⟨w.heap.size + 1, 0, none⟩ = some (.slice A xs.length c) := (blk_cell HBX.out 0).trans rfl
  have cb1 : w7.cell? ⟨w.heap.size + 1, 1, none⟩ = some (.bool true) := (blk_cell HBX.out 1).trans rfl
  have cb2 : w7.cell? ⟨w.heap.size + 1, 2, none⟩ = some (.int .i64 st) := (blk_cell HBX.out 2).trans rfl
  have cb3 : w7.cell? ⟨w.heap.size + 1, 3, none⟩ = some (.slice A3 ag.length c3) := (blk_cell HBX.out 3).trans rfl
  cases hqa : agreeB xs with
  | false =>
   rw [hqa] at HV
   go_wp2_with fail
   go_ret
   refine ⟨?_, HB.out⟩
   rw [HV.out]
   rfl
  | true =>
   rw [hqa] at HV
   by_cases h0 : M = []
   ·have hl0 : ((M.length : Int) == 0) = true := by simp [h0]
    have HL0 := am h0
    clear h0
    go_wp2_with fail
    go_ret
    refine ⟨?_, HB.out⟩
    rw [HV.out]
    simp only [if_true, if_pos HL0.out]
    rfl
   ·have hl0 : ((M.length : Int) == 0) = false := by have := List.length_pos_iff.2 h0; simp; omega
    have HL0 := am h0
    clear h0
    cases hok : (sprd M).2 with
    | false =>
     rw [hok] at HV
     go_wp2_with fail
     go_ret
     refine ⟨?_, HB.out⟩
     rw [HV.out]
     simp only [if_true, if_neg HL0.out]
     rfl
    | true =>
     rw [hok] at HV
     go_wp2_with fail
     clear ca0 ca1 ca2 ca3 ca4 ca5 ca6 ca7 ca8 ca9 ca10 ca11 ca12 cb0 cb1 cb2 cb3
     refine (bounds_Near.calls AP cP P AQ cQ Q a2 a3 a4 a5 a6 a7 a8 a9 a10 a11 a12 _ w7 (HN.out.below HB.out).p (HN.out.below HB.out).cp (HN.out.below HB.out).q (HN.out.below HB.out).cq HKN.out).mono ?_
     rintro e w8 ⟨rfl, hb⟩
     have HLz := am hb
     have HB_ := am (below_step HB.out HLz.out)
     have HBN_ := am ((HLz.out.block w.heap.size (blk_lt HBN.out)).trans HBN.out)
     have HBX_ := am ((HLz.out.block (w.heap.size + 1) (blk_lt HBX.out)).trans HBX.out)
     clear HB HBN HBX
     have HB := HB_
     have HBN := HBN_
     have HBX := HBX_
     clear HB_ HBN_ HBX_
     clear hb
     go_wp2_with fail
     go_ret
     refine ⟨?_, HB.out⟩
     rw [HV.out]
     simp only [if_true, if_neg HL0.out]
     rfl
end Go.Proofs.YtbefbhghmommhaaGreatDoor.MWo
