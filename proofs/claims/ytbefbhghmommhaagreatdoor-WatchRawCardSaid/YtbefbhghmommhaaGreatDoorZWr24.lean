/- Texts of this claim, laid together by a program (wip/g/merge5.py): PuWr, HWx, HWm, HWa, MWox55, PuSm, HWq, OpenB, OpenC. -/
import Derived.Test.YtbefbhghmommhaaGreatDoorZWr19
import Derived.Test.YtbefbhghmommhaaGreatDoorZWr16
import Derived.Test.YtbefbhghmommhaaGreatDoorZWr22
import Derived.Test.YtbefbhghmommhaaGreatDoorZWr23
import Derived.Test.YtbefbhghmommhaaGreatDoorZWr12
import Derived.Test.YtbefbhghmommhaaGreatDoorZWr4
import Derived.Maps.OwnOps
import Derived.Maps.OwnSet
import Derived.Maps.Views
import Derived.Test.YtbefbhghmommhaaGreatDoorZWr18
import Derived.Test.YtbefbhghmommhaaGreatDoorZWr17
import Derived.Deep.RegionLaw
import Derived.Deep.RegionHeld3
import Derived.Lib.SmallJoins
import Derived.Deep.Slices
import Derived.DataReads
import Derived.ChangeArms
set_option linter.unusedVariables false
set_option linter.unusedSimpArgs false
set_option maxRecDepth 100000
namespace Go.Proofs.YtbefbhghmommhaaGreatDoor.MWo
open Go.RowKit Go.Proofs.YtbefbhghmommhaaGreatDoorW.PrintWords Go.Proofs.YtbefbhghmommhaaGreatDoorW.PrintLast Go.Proofs.YtbefbhghmommhaaGreatDoorW.PrintMore Go.Proofs.YtbefbhghmommhaaGreatDoor.Evl
def withinV (nr : Int) (l : List S55) (L : List Int) : Bool := if agreeB l = true then (if L = [] then true else if (sprd L).2 = true then decide ((sprd L).1 ≤ nr) else false) else false
def begs (l : List S55) (on : Bool) (st : Int) : List Int := if on = true then (syn l).map (·.f3) ++ [st] else (syn l).map (·.f3)
theorem rwithin_evl {l : List S55} (hl : l.length ≤ 1000) (hx : ∀ x ∈ l, x.f5.length ≤ 1000000) (P : List S68) (Q : List S71) (a2 a3 a4 a5 a6 a7 a8 a9 a10 a11 a12 : Int) (on : Bool) (st : Int) (ag : List Int) {nr : Int}
  (hn : dr5_Near.f P Q a2 a3 a4 a5 a6 a7 a8 a9 a10 a11 a12 = some nr) :
  Evl (fun k => dr26_Within.f k P Q a2 a3 a4 a5 a6 a7 a8 a9 a10 a11 a12 l on st ag) (withinV nr l (begs l on st)) := by
 unfold dr26_Within.f
 have h0 := syn_len l
 refine Evl.bind (rsynced_evl (by omega) on st ag) ?_
 refine Evl.bind (rstarts_evl (by omega)) ?_
 have h1 : ((syn l).map (·.f3)).length ≤ 1000 := by rw [List.length_map]; omega
 have hA : dr26_Agree.f l on st ag = some (agreeB l) := if_pos ⟨hl, List.all_eq_true.2 fun x h => dT (hx x h)⟩
 have h2 : (syn l).map (·.f3) = [] → agreeB l = true := fun h => by
  have : syn l = [] := List.map_eq_nil_iff.1 h
  unfold agreeB; rw [this]
 unfold begs
 generalize (syn l).map (·.f3) = X at h1 h2 ⊢
 have tail : ∀ L : List Int, L.length ≤ 1001 → (L = [] → agreeB l = true) → Evl (fun k => dr26_Within.j0 k L P Q a2 a3 a4 a5 a6 a7 a8 a9 a10 a11 a12 l on st ag) (withinV nr l L) := by
  intro L hL hE
  refine Evl.succ ?_
  simp only [dr26_Within.j0]
  unfold withinV
  by_cases h0 : L = []
  ·rw [if_pos (hE h0), if_pos h0]
   subst h0
   simp only [List.length_nil, Int.ofNat_zero, if_true]
   exact Evl.now fun _ => rfl
  ·have hp := List.length_pos_iff.2 h0
   simp only [if_neg (show ¬ ((L.length : Int) = 0) by omega), if_neg h0]
   refine Evl.bind (rspread_evl (by omega)) ?_
   simp only [hA, Option.bind_some]
   by_cases ha : agreeB l = true
   ·simp only [if_pos ha]
    by_cases hs : (sprd L).2 = true
    ·simp only [if_pos hs]
     simp only [hn, Option.bind_some]
     exact Evl.now fun _ => rfl
    ·simp only [if_neg hs]
     exact Evl.now fun _ => rfl
   ·simp only [if_neg ha]
    exact Evl.now fun _ => rfl
 cases on with
 | true =>
  simp only [if_true, if_pos (show X.length < 17592186044416 by omega)]
  exact tail (X ++ [st]) (by simp; omega) (fun h => by simp at h)
 | false =>
  simp only [show (false = true) = False by simp, if_false]
  exact tail X (by omega) h2
set_option linter.unusedVariables false
set_option linter.unusedSimpArgs false
set_option maxRecDepth 100000
set_option maxHeartbeats 4000000 in
theorem within_any (AP : Option Addr) (cP : Nat) (P : List S68) (AQ : Option Addr) (cQ : Nat) (Q : List S71) (a2 a3 a4 a5 a6 a7 a8 a9 a10 a11 a12 : Int) (A : Option Addr) (c : Nat) (xs : List S55) (on : Bool) (st : Int) (A3 : Option Addr) (c3 : Nat) (ag : List Int) (nr : Int) (w : World) (hN : NetAt w P AP cP Q AQ cQ) (hX : CellAt w ⟨xs, ⟨on, st, ag⟩⟩ A c A3 c3) (hl : xs.length ≤ 1000) (hx : ∀ z ∈ xs, z.f5.length ≤ 1000000)
  (hn : ∀ W : World, Below w.heap.size w W → NetAt W P AP cP Q AQ cQ → Calls Tryz.prog 33 #[.agg #[.slice AP P.length cP, .slice AQ Q.length cQ, .int .i64 a2, .int .i64 a3, .int .i64 a4, .int .i64 a5, .int .i64 a6, .int .i64 a7, .int .i64 a8, .int .i64 a9, .int .i64 a10, .int .i64 a11, .int .i64 a12]] W fun e w' => e = .returned (.int .i64 nr) ∧ Below W.heap.size W w') :
  Calls Tryz.prog 11 #[.agg #[.slice AP P.length cP, .slice AQ Q.length cQ, .int .i64 a2, .int .i64 a3, .int .i64 a4, .int .i64 a5, .int .i64 a6, .int .i64 a7, .int .i64 a8, .int .i64 a9, .int .i64 a10, .int .i64 a11, .int .i64 a12], .agg #[.slice A xs.length c, .bool on, .int .i64 st, .slice A3 ag.length c3]] w fun e w' => e = .returned (.bool (withinV nr xs (begs xs on st))) ∧ Below w.heap.size w w' := by
 have HKN := am hn
 have HN := am hN
 have HX := am hX
 have HS := am (And.intro hl hx)
 clear hN hX hl hx hn
 have b1 := below_alloc (Below.refl w.heap.size w) (.cells #[.slice AP P.length cP, .slice AQ Q.length cQ, .int .i64 a2, .int .i64 a3, .int .i64 a4, .int .i64 a5, .int .i64 a6, .int .i64 a7, .int .i64 a8, .int .i64 a9, .int .i64 a10, .int .i64 a11, .int .i64 a12] 25)
 have b2 := below_alloc b1 (.cells #[.slice A xs.length c, .bool on, .int .i64 st, .slice A3 ag.length c3] 37)
 have hsz : (w.alloc (.cells #[.slice AP P.length cP, .slice AQ Q.length cQ, .int .i64 a2, .int .i64 a3, .int .i64 a4, .int .i64 a5, .int .i64 a6, .int .i64 a7, .int .i64 a8, .int .i64 a9, .int .i64 a10, .int .i64 a11, .int .i64 a12] 25)).heap.size = w.heap.size + 1 := Array.size_push _
 have HBN : Aside0 (((w.alloc (.cells #[.slice AP P.length cP, .slice AQ Q.length cQ, .int .i64 a2, .int .i64 a3, .int .i64 a4, .int .i64 a5, .int .i64 a6, .int .i64 a7, .int .i64 a8, .int .i64 a9, .int .i64 a10, .int .i64 a11, .int .i64 a12] 25)).alloc (.cells #[.slice A xs.length c, .bool on, .int .i64 st, .slice A3 ag.length c3] 37)).heap[w.heap.size]? = some (.cells #[.slice AP P.length cP, .slice AQ Q.length cQ, .int .i64 a2, .int .i64 a3, .int .i64 a4, .int .i64 a5, .int .i64 a6, .int .i64 a7, .int .i64 a8, .int .i64 a9, .int .i64 a10, .int .i64 a11, .int .i64 a12] 25 (0, 0))) := ⟨((below_alloc (Below.refl _ _) _).block w.heap.size (blk_lt (heap_alloc_new w _))).trans (heap_alloc_new w _)⟩
 have HBX : Aside0 (((w.alloc (.cells #[.slice AP P.length cP, .slice AQ Q.length cQ, .int .i64 a2, .int .i64 a3, .int .i64 a4, .int .i64 a5, .int .i64 a6, .int .i64 a7, .int .i64 a8, .int .i64 a9, .int .i64 a10, .int .i64 a11, .int .i64 a12] 25)).alloc (.cells #[.slice A xs.length c, .bool on, .int .i64 st, .slice A3 ag.length c3] 37)).heap[w.heap.size + 1]? = some (.cells #[.slice A xs.length c, .bool on, .int .i64 st, .slice A3 ag.length c3] 37 (0, 0))) := ⟨by have h := heap_alloc_new (w.alloc (.cells #[.slice AP P.length cP, .slice AQ Q.length cQ, .int .i64 a2, .int .i64 a3, .int .i64 a4, .int .i64 a5, .int .i64 a6, .int .i64 a7, .int .i64 a8, .int .i64 a9, .int .i64 a10, .int .i64 a11, .int .i64 a12] 25)) (.cells #[.slice A xs.length c, .bool on, .int .i64 st, .slice A3 ag.length c3] 37); rwa [hsz] at h⟩
 have HB := am b2
 clear b1 b2 hsz
 go_enter Tryz.func11, Tryz.ntmps11
 go_upto_region 1 with fail
 generalize (w.alloc (.cells #[.slice AP P.length cP, .slice AQ Q.length cQ, .int .i64 a2, .int .i64 a3, .int .i64 a4, .int .i64 a5, .int .i64 a6, .int .i64 a7, .int .i64 a8, .int .i64 a9, .int .i64 a10, .int .i64 a11, .int .i64 a12] 25)).alloc (.cells #[.slice A xs.length c, .bool on, .int .i64 st, .slice A3 ag.length c3] 37) = w1 at *
 obtain ⟨ca0, ca1, ca2, ca3, ca4, ca5, ca6, ca7, ca8, ca9, ca10, ca11, ca12⟩ := cellsK13 HBN.out
 obtain ⟨cb0, cb1, cb2, cb3⟩ := cellsK4 HBX.out
 go_wp2_with fail
 clear ca0 ca1 ca2 ca3 ca4 ca5 ca6 ca7 ca8 ca9 ca10 ca11 ca12 cb0 cb1 cb2 cb3
 have HSZ := am HB.out.size
 refine (starts_walk A c xs on st A3 c3 ag w1 (HX.out.below HB.out).r0 (HX.out.below HB.out).c0 (HX.out.below HB.out).r3 (HX.out.below HB.out).c3 (by have := HS.out.1; omega)).mono ?_
 rintro e w2 ⟨v, rfl, ho, hb⟩
 obtain ⟨L, hL⟩ : ∃ L, (syn xs).map (·.f3) = L := ⟨_, rfl⟩
 have HOL : Aside0 (L.length ≤ 1000) := ⟨by have := syn_len xs; have := HS.out.1; rw [← hL, List.length_map]; omega⟩
 rw [hL] at ho
 have HVL := am hL
 clear hL
 have HLw := am hb
 have HB_ := am (below_step HB.out HLw.out)
 have HBN_ := am ((HLw.out.block w.heap.size (blk_lt HBN.out)).trans HBN.out)
 have HBX_ := am ((HLw.out.block (w.heap.size + 1) (blk_lt HBX.out)).trans HBX.out)
 clear HB HBN HBX
 have HB := HB_
 have HBN := HBN_
 have HBX := HBX_
 clear HB_ HBN_ HBX_
 clear hb
 obtain ⟨A2, c2, rfl⟩ := Kd.R_slice ho
 have HO := am ho
 have HNE := am (And.intro (Kd.R_ne ho HBN.out (by decide)) (Kd.R_ne ho HBX.out (by decide)))
 clear ho
 cases on with
 | false =>
  obtain ⟨ca0, ca1, ca2, ca3, ca4, ca5, ca6, ca7, ca8, ca9, ca10, ca11, ca12⟩ := cellsK13 HBN.out
  obtain ⟨cb0, cb1, cb2, cb3⟩ := cellsK4 HBX.out
  have HLL : Aside0 (L.length ≤ 1001) := ⟨by have := HOL.out; omega⟩
  have hrr := Kd.R_reads' HO.out
  have HL := am hrr.2.2
  have HLc := am hrr.2.1
  clear hrr HO HOL
  go_upto_region 4 with fail
  go_wp2_with fail
  have HV : Aside0 (withinV nr xs (begs xs false st) = if agreeB xs = true then (if L = [] then true else if (sprd L).2 = true then decide ((sprd L).1 ≤ nr) else false) else false) := ⟨by rw [← HVL.out]; rfl⟩
  clear HVL
  refine (gspread_walk A2 c2 L w2 HL.out (by have := HLL.out; omega)).mono ?_
  rintro e w6 ⟨rfl, rfl⟩
  go_upto_region 5 with fail
  clear ca0 ca1 ca2 ca3 ca4 ca5 ca6 ca7 ca8 ca9 ca10 ca11 ca12 cb0 cb1 cb2 cb3
  obtain ⟨ca0, ca1, ca2, ca3, ca4, ca5, ca6, ca7, ca8, ca9, ca10, ca11, ca12⟩ := cellsK13 HBN.out
  obtain ⟨cb0, cb1, cb2, cb3⟩ := cellsK4 HBX.out
  go_wp2_with fail
  clear ca0 ca1 ca2 ca3 ca4 ca5 ca6 ca7 ca8 ca9 ca10 ca11 ca12 cb0 cb1 cb2 cb3
  refine (agree_walk A c xs false st A3 c3 ag w6 (HX.out.below HB.out).r0 (HX.out.below HB.out).c0 (HX.out.below HB.out).r3 (HX.out.below HB.out).c3 (by have := HS.out.1; omega) HS.out.2).mono ?_
  rintro e w7 ⟨rfl, hb⟩
  have HLy := am hb
  have HB_ := am (below_step HB.out HLy.out)
  have HBN_ := am ((HLy.out.block w.heap.size (blk_lt HBN.out)).trans HBN.out)
  have HBX_ := am ((HLy.out.block (w.heap.size + 1) (blk_lt HBX.out)).trans HBX.out)
  clear HB HBN HBX
  have HB := HB_
  have HBN := HBN_
  have HBX := HBX_
  clear HB_ HBN_ HBX_
  clear hb
  obtain ⟨ca0, ca1, ca2, ca3, ca4, ca5, ca6, ca7, ca8, ca9, ca10, ca11, ca12⟩ := cellsK13 HBN.out
  obtain ⟨cb0, cb1, cb2, cb3⟩ := cellsK4 HBX.out
  cases hqa : agreeB xs with
  | false =>
   rw [hqa] at HV
   go_wp2_with fail
   go_ret
   refine ⟨?_, HB.out⟩
   rw [HV.out]
   rfl
  | true =>
   rw [hqa] at HV
   by_cases h0 : L = []
   ·have hl0 : ((L.length : Int) == 0) = true := by simp [h0]
    have HL0 := am h0
    clear h0
    go_wp2_with fail
    go_ret
    refine ⟨?_, HB.out⟩
    rw [HV.out]
    simp only [if_true, if_pos HL0.out]
    rfl
   ·have hl0 : ((L.length : Int) == 0) = false := by have := List.length_pos_iff.2 h0; simp; omega
    have HL0 := am h0
    clear h0
    cases hok : (sprd L).2 with
    | false =>
     rw [hok] at HV
     go_wp2_with fail
     go_ret
     refine ⟨?_, HB.out⟩
     rw [HV.out]
     simp only [if_true, if_neg HL0.out]
     rfl
    | true =>
     rw [hok] at HV
     go_wp2_with fail
     clear ca0 ca1 ca2 ca3 ca4 ca5 ca6 ca7 ca8 ca9 ca10 ca11 ca12 cb0 cb1 cb2 cb3
     refine (HKN.out w7 HB.out (HN.out.below HB.out)).mono ?_
     rintro e w8 ⟨rfl, hb⟩
     have HLz := am hb
     have HB_ := am (below_step HB.out HLz.out)
     have HBN_ := am ((HLz.out.block w.heap.size (blk_lt HBN.out)).trans HBN.out)
     have HBX_ := am ((HLz.out.block (w.heap.size + 1) (blk_lt HBX.out)).trans HBX.out)
     clear HB HBN HBX
     have HB := HB_
     have HBN := HBN_
     have HBX := HBX_
     clear HB_ HBN_ HBX_
     clear hb
     go_wp2_with fail
     go_ret
     refine ⟨?_, HB.out⟩
     rw [HV.out]
     simp only [if_true, if_neg HL0.out]
     rfl
 | true =>
  obtain ⟨ca0, ca1, ca2, ca3, ca4, ca5, ca6, ca7, ca8, ca9, ca10, ca11, ca12⟩ := cellsK13 HBN.out
  obtain ⟨cb0, cb1, cb2, cb3⟩ := cellsK4 HBX.out
  obtain ⟨M, hM⟩ : ∃ M, L ++ [st] = M := ⟨_, rfl⟩
  have HLL : Aside0 (M.length ≤ 1001) := ⟨by have := HOL.out; rw [← hM, List.length_append, List.length_singleton]; omega⟩
  have HVM := am hM
  clear hM
  go_wp2_with (first | (refine Kd.R_append (Kd.int .i64) (w0 := w) w.heap.size rfl (.tmp 13) (.tmp 17) 61 2 (.int .i64 0) 8 rfl Tryz.underlying61 info2 rfl (by decide) (by omega) _ L st [.int .i64 st] (fun _ => True) (fun _ => False) rfl rfl ?aP (fun _ hk => hk.elim) ?aF ?aO ?aB ?aS ?aL ?_; (case aP => exact rfl); (case aB => exact HB.out); (case aF => exact (fun _ _ => trivial)); (case aO => exact Kd.R_lower HO.out HSZ.out); (case aS => exact HB.out.size); (case aL => have := HOL.out; omega); intro v1 w5 ho hb hg hat; rw [HVM.out] at ho; obtain ⟨A5, c5, e5⟩ := Kd.R_slice ho; subst e5; have HBN_ := am (blk_grown HBN.out hg HNE.out.1); have HBX_ := am (blk_grown HBX.out hg HNE.out.2); have HB_ := am hb; have hrr := Kd.R_reads' ho; have HL := am hrr.2.2; have HLc := am hrr.2.1; clear hrr ho hb hg hat HB HBN HBX HO HOL HSZ HNE; skip))
  have HB := HB_
  have HBN := HBN_
  have HBX := HBX_
  clear HB_ HBN_ HBX_
  have HV : Aside0 (withinV nr xs (begs xs true st) = if agreeB xs = true then (if M = [] then true else if (sprd M).2 = true then decide ((sprd M).1 ≤ nr) else false) else false) := ⟨by rw [← HVM.out, ← HVL.out]; rfl⟩
  clear HVL HVM
  refine (gspread_walk A5 c5 M w5 HL.out (by have := HLL.out; omega)).mono ?_
  rintro e w6 ⟨rfl, rfl⟩
  go_upto_region 5 with fail
  clear ca0 ca1 ca2 ca3 ca4 ca5 ca6 ca7 ca8 ca9 ca10 ca11 ca12 cb0 cb1 cb2 cb3
  obtain ⟨ca0, ca1, ca2, ca3, ca4, ca5, ca6, ca7, ca8, ca9, ca10, ca11, ca12⟩ := cellsK13 HBN.out
  obtain ⟨cb0, cb1, cb2, cb3⟩ := cellsK4 HBX.out
  go_wp2_with fail
  clear ca0 ca1 ca2 ca3 ca4 ca5 ca6 ca7 ca8 ca9 ca10 ca11 ca12 cb0 cb1 cb2 cb3
  refine (agree_walk A c xs true st A3 c3 ag w6 (HX.out.below HB.out).r0 (HX.out.below HB.out).c0 (HX.out.below HB.out).r3 (HX.out.below HB.out).c3 (by have := HS.out.1; omega) HS.out.2).mono ?_
  rintro e w7 ⟨rfl, hb⟩
  have HLy := am hb
  have HB_ := am (below_step HB.out HLy.out)
  have HBN_ := am ((HLy.out.block w.heap.size (blk_lt HBN.out)).trans HBN.out)
  have HBX_ := am ((HLy.out.block (w.heap.size + 1) (blk_lt HBX.out)).trans HBX.out)
  clear HB HBN HBX
  have HB := HB_
  have HBN := HBN_
  have HBX := HBX_
  clear HB_ HBN_ HBX_
  clear hb
  obtain ⟨ca0, ca1, ca2, ca3, ca4, ca5, ca6, ca7, ca8, ca9, ca10, ca11, ca12⟩ := cellsK13 HBN.out
  obtain ⟨cb0, cb1, cb2, cb3⟩ := cellsK4 HBX.out
  cases hqa : agreeB xs with
  | false =>
   rw [hqa] at HV
   go_wp2_with fail
   go_ret
   refine ⟨?_, HB.out⟩
   rw [HV.out]
   rfl
  | true =>
   rw [hqa] at HV
   by_cases h0 : M = []
   ·have hl0 : ((M.length : Int) == 0) = true := by simp [h0]
    have HL0 := am h0
    clear h0
    go_wp2_with fail
    go_ret
    refine ⟨?_, HB.out⟩
    rw [HV.out]
    simp only [if_true, if_pos HL0.out]
    rfl
   ·have hl0 : ((M.length : Int) == 0) = false := by have := List.length_pos_iff.2 h0; simp; omega
    have HL0 := am h0
    clear h0
    cases hok : (sprd M).2 with
    | false =>
     rw [hok] at HV
     go_wp2_with fail
     go_ret
     refine ⟨?_, HB.out⟩
     rw [HV.out]
     simp only [if_true, if_neg HL0.out]
     rfl
    | true =>
     rw [hok] at HV
     go_wp2_with fail
     clear ca0 ca1 ca2 ca3 ca4 ca5 ca6 ca7 ca8 ca9 ca10 ca11 ca12 cb0 cb1 cb2 cb3
     refine (HKN.out w7 HB.out (HN.out.below HB.out)).mono ?_
     rintro e w8 ⟨rfl, hb⟩
     have HLz := am hb
     have HB_ := am (below_step HB.out HLz.out)
     have HBN_ := am ((HLz.out.block w.heap.size (blk_lt HBN.out)).trans HBN.out)
     have HBX_ := am ((HLz.out.block (w.heap.size + 1) (blk_lt HBX.out)).trans HBX.out)
     clear HB HBN HBX
     have HB := HB_
     have HBN := HBN_
     have HBX := HBX_
     clear HB_ HBN_ HBX_
     clear hb
     go_wp2_with fail
     go_ret
     refine ⟨?_, HB.out⟩
     rw [HV.out]
     simp only [if_true, if_neg HL0.out]
     rfl
open Go.RowKit Go.Maps Go.Proofs.YtbefbhghmommhaaGreatDoorW.PrintWords Go.Proofs.YtbefbhghmommhaaGreatDoorW.PrintLast Go.Proofs.YtbefbhghmommhaaGreatDoorW.PrintMore
theorem keyI : Keyed Tryz.prog 3 := int_keyed Tryz.underlying3
theorem zeroL (w : World) : (zeroValue 2).run Tryz.prog w = .ok (.int .i64 0) w := by kernel_rfl
def Mp (w : World) (b n : Nat) (g : Int → Int) : Prop :=
 ∃ D : DataW Unit, w.ownsMap Tryz.prog 3 (plainElem Tryz.prog 2) b n D ∧ ∀ q, (Lit.int .i64 q).wf = true → D.atKey (.int .i64 q) (.lit (.int .i64 0)) = .lit (.int .i64 (g q))
def upd (g : Int → Int) (k v : Int) : Int → Int := fun q => if q = k then v else g q
theorem Mp.made (w : World) : Mp (w.alloc (.map #[] 0)) w.heap.size 0 (fun _ => 0) := ⟨.map [], World.ownsMap_made _ _ _ _, fun _ _ => rfl⟩
theorem Mp.look {w : World} {b n : Nat} {g : Int → Int} (h : Mp w b n g) {q : Int} (hq : (Lit.int .i64 q).wf = true) :
  (Instr.lookup 83 (.map (some b)) (.int .i64 q) false).run Tryz.prog w = .ok (.int .i64 (g q)) w := by
 obtain ⟨D, hD, hg⟩ := h
 obtain ⟨c, hrun, hat, _⟩ := hD.lookup_int keyI Tryz.underlying83 Tryz.underlying2 (zeroL _) (keyOf_int_mk Tryz.underlying3 hq)
 have := hat.symm.trans (hg q hq)
 injection this with e
 injection e with _ e2
 rw [hrun, e2]
theorem Mp.put {w : World} {b n : Nat} {g : Int → Int} (h : Mp w b n g) (hn : n < maxLen) {q v : Int} (hq : (Lit.int .i64 q).wf = true) (hv : (Lit.int .i64 v).wf = true) :
  ∃ w', (Instr.mapUpdate 83 (.map (some b)) (.int .i64 q) (.int .i64 v)).run Tryz.prog w = .ok () w' ∧ Mp w' b (n + 1) (upd g q v) ∧ w.grownBy w' (some b) := by
 obtain ⟨D, hD, hg⟩ := h
 obtain ⟨w', hrun, h1, h2⟩ := hD.update keyI Tryz.underlying83 hn (keyOf_int_mk Tryz.underlying3 hq) (plainElem_int (H := Unit) Tryz.underlying2 hv)
 refine ⟨w', hrun, ⟨_, h1, fun k hk => ?_⟩, h2⟩
 unfold upd
 by_cases e : k = q
 ·subst e
  rw [if_pos rfl]
  exact atKey_put_same hD.isMap (show WideAt.IsKeyLit (.int .i64 k) from trivial) _ _
 ·rw [if_neg e, atKey_put_other (by intro h; injection h with _ h; exact e h)]
  exact hg k hk
theorem Mp.grown {w w1 : World} {b n : Nat} {g : Int → Int} {row : Option Nat} (h : Mp w b n g) (hg : w.grownBy w1 row) (hne : some b ≠ row) : Mp w1 b n g := by
 obtain ⟨D, hD, h2⟩ := h
 exact ⟨D, hD.kept hg hne, h2⟩
theorem Mp.lt {w : World} {b n : Nat} {g : Int → Int} (h : Mp w b n g) : b < w.heap.size := by
 obtain ⟨D, hD, _⟩ := h
 exact hD.lt
structure S52 where
 f0 : Int
 f1 : Int
 f2 : Bool
 f3 : List Int
def z52 : S52 := ⟨0, 0, false, []⟩
def rd_T52 (xs : List S52) (i : Int) : S52 := xs.getD i.toNat z52
def ordM : (Int → Int) → List S52 → Bool
 | _, [] => true
 | g, x :: t => if x.f1 ≤ g x.f0 then false else if (x.f2 != (wrap64 (x.f1 - 1) != g x.f0)) = true then false else ordM (upd g x.f0 x.f1) t
def lgk : Kd S52 where
 sz := 4
 E := []
 K := fun _ x cs => ∃ A n c, cs = [.int .i64 x.f0, .int .i64 x.f1, .bool x.f2, .slice A n c]
 M := fun _ _ _ x cs => ∃ A n c, cs = [.int .i64 x.f0, .int .i64 x.f1, .bool x.f2, .slice A n c]
 K_len := by rintro w x cs ⟨_, _, _, rfl⟩; rfl
 K_one := by rintro w x cs ⟨_, _, _, rfl⟩ u hu; simp at hu; rcases hu with rfl | rfl | rfl | rfl <;> rfl
 K_below := fun _ h => h
 K_of_M := fun h => h
 M_mono := fun _ h => h
 M_bound := fun h => h
 M_move := fun _ h => h
 M_lower := fun _ h => h
theorem at_lgk {w : World} {A : Option Addr} {n : Nat} {xs : List S52} (h : Kd.C lgk w A n xs) (i : Nat) (h1 : i < n) : ∃ ad A3 n3 c3, A = some ad ∧ w.cell? (ad.add (i * 4)) = some (.int .i64 (rd_T52 xs i).f0) ∧ w.cell? ⟨(ad.add (i * 4)).block, (ad.add (i * 4)).off + 1, none⟩ = some (.int .i64 (rd_T52 xs i).f1) ∧ w.cell? ⟨(ad.add (i * 4)).block, (ad.add (i * 4)).off + 2, none⟩ = some (.bool (rd_T52 xs i).f2) ∧ w.cell? ⟨(ad.add (i * 4)).block, (ad.add (i * 4)).off + 3, none⟩ = some (.slice A3 n3 c3) := by
 obtain ⟨ad, c, e, _, hK, hc0⟩ := Kd.C_get h z52 (i : Int) (by omega) (by omega)
 simp only [Int.toNat_natCast] at hc0
 have hc : ∀ j u, c[j]? = some u → w.cell? (ad.add (i * 4 + j)) = some u := hc0
 obtain ⟨A3, n3, c3, rfl⟩ := hK
 exact ⟨ad, A3, n3, c3, e, hc 0 _ rfl, by rw [← add_field _ _ 1 (by omega)]; exact hc 1 _ rfl, by rw [← add_field _ _ 2 (by omega)]; exact hc 2 _ rfl, by rw [← add_field _ _ 3 (by omega)]; exact hc 3 _ rfl⟩
set_option maxHeartbeats 4000000 in
theorem order_walk (A : Option Addr) (c : Nat) (l : List S52) (w : World) (hr : Kd.C lgk w A l.length l) (hl : l.length ≤ 100000) (hwf : ∀ x ∈ l, (Lit.int .i64 x.f0).wf = true ∧ (Lit.int .i64 x.f1).wf = true) :
  Calls Tryz.prog 22 #[.slice A l.length c] w fun e w' => e = .returned (.bool (ordM (fun _ => 0) l)) ∧ Below w.heap.size w w' := by
 have HR := am hr
 have HW := am hwf
 have hmm := @run_makeMap Tryz.prog
 obtain ⟨Z, hZ⟩ : ∃ Z, ordM (fun _ => 0) l = Z := ⟨_, rfl⟩
 rw [hZ]
 have HZ := am hZ
 clear hr hwf hZ
 go_enter Tryz.func22, Tryz.ntmps22
 go_wp2_with fail
 go_loopg [9] (l.length + 1) (fun kq v9 wr => ∃ (k : Nat) (g : Int → Int), Aside0 (k ≤ l.length ∧ kq = l.length + 1 - k) ∧ v9 = .int .i64 k ∧ Aside0 (Mp wr w.heap.size k g) ∧ Aside0 (Below w.heap.size w wr) ∧ Aside0 (ordM g (l.drop k) = Z))
 case atStart => exact ⟨0, fun _ => 0, ⟨Nat.zero_le _, rfl⟩, rfl, ⟨Mp.made w⟩, ⟨below_alloc (Below.refl _ _) _⟩, HZ⟩
 case round =>
  clear HZ
  obtain ⟨k, g, HK, rfl, HM, HB, HZ⟩ := hrel
  by_cases hk : k < l.length
  ·have hd : decide ((k : Int) < (l.length : Int)) = true := dT (by omega)
   obtain ⟨ad, A3, n3, c3, e3, h0, h1, h2, h3⟩ := at_lgk (Kd.C_below HR.out HB.out) k hk
   cases e3
   have hx : rd_T52 l (k : Int) = l[k] := by simp [rd_T52, hk]
   have hdr : l.drop k = l[k] :: l.drop (k + 1) := by rw [List.drop_eq_getElem_cons hk]
   have hw := HW.out l[k] (List.getElem_mem hk)
   rw [hx] at h0 h1 h2
   have HZ2 : Aside0 (ordM g (l[k] :: l.drop (k + 1)) = Z) := ⟨by rw [← hdr]; exact HZ.out⟩
   have p0_ := eq_true (show (0 : Int) ≤ (k : Int) by omega)
   have p0c : (k : Int) < (l.length : Int) := by omega
   clear HZ hdr hx
   generalize l[k] = x at *
   go_upto_region 5 with fail
   have kb := below_alloc (Below.refl wr.heap.size wr) (.cells #[.int .i64 x.f0, .int .i64 x.f1, .bool x.f2, .slice A3 n3 c3] 52)
   have HX := am (heap_alloc_new wr (.cells #[.int .i64 x.f0, .int .i64 x.f1, .bool x.f2, .slice A3 n3 c3] 52))
   have HM1 := am (HM.out.grown (World.grownBy_alloc wr (.cells #[.int .i64 x.f0, .int .i64 x.f1, .bool x.f2, .slice A3 n3 c3] 52) none) (by simp))
   have HB1 := am (below_step HB.out kb)
   have HLM := am HM.out.lt
   clear kb h0 h1 h2 h3 HM HB
   generalize wr.alloc (.cells #[.int .i64 x.f0, .int .i64 x.f1, .bool x.f2, .slice A3 n3 c3] 52) = w1 at *
   generalize wr.heap.size = xb at *
   have c1 : w1.cell? ⟨xb, 1, none⟩ = some (.int .i64 x.f1) := (blk_cell HX.out 1).trans rfl
   have c0 : w1.cell? ⟨xb, 0, none⟩ = some (.int .i64 x.f0) := (blk_cell HX.out 0).trans rfl
   have c2 : w1.cell? ⟨xb, 2, none⟩ = some (.bool x.f2) := (blk_cell HX.out 2).trans rfl
   have hlk := HM1.out.look hw.1
   by_cases hle : x.f1 ≤ g x.f0
   ·have hd1 : decide (x.f1 ≤ g x.f0) = true := dT hle
    have HE : Aside0 (Z = false) := ⟨by rw [← HZ2.out]; exact if_pos hle⟩
    go_wp2_with fail
    go_ret
    rw [HE.out]
    exact ⟨rfl, HB1.out⟩
   ·have hd1 : decide (x.f1 ≤ g x.f0) = false := dF hle
    by_cases hg : (x.f2 != (wrap64 (x.f1 - 1) != g x.f0)) = true
    ·have HE : Aside0 (Z = false) := ⟨by rw [← HZ2.out]; exact (if_neg hle).trans (if_pos hg)⟩
     have hg2 : (!x.f2 == (wrap64 (x.f1 - 1) != g x.f0)) = true := by rw [← hg]; cases x.f2 <;> cases (wrap64 (x.f1 - 1) != g x.f0) <;> rfl
     go_wp2_with fail
     go_ret
     rw [HE.out]
     exact ⟨rfl, HB1.out⟩
    ·have hg2 : (!x.f2 == (wrap64 (x.f1 - 1) != g x.f0)) = false := by
      have hg1 : (x.f2 != (wrap64 (x.f1 - 1) != g x.f0)) = false := by simpa using hg
      rw [← hg1]; cases x.f2 <;> cases (wrap64 (x.f1 - 1) != g x.f0) <;> rfl
     have hg0 : (x.f2 != (wrap64 (x.f1 - 1) != g x.f0)) = false := by simpa using hg
     have HZ3 : Aside0 (ordM (upd g x.f0 x.f1) (l.drop (k + 1)) = Z) := ⟨by rw [← HZ2.out]; exact ((if_neg hle).trans (if_neg hg)).symm⟩
     obtain ⟨w2, hmu, hM2, hg2⟩ := HM1.out.put (by have := HK.out; unfold maxLen; omega) hw.1 hw.2
     have HM2 := am hM2
     have HB2 := am (HB1.out.grown hg2 HB1.out.size (fun j hj => by cases hj; exact Nat.le_refl _))
     clear hM2 hg2 HM1
     cases gk with
     | zero => exact absurd HK.out (by omega)
     | succ k1 =>
     go_wp2_with fail
     go_roundg k1
     case measure => have := HK.out; omega
     case rel => exact ⟨k + 1, _, ⟨by omega, by have := HK.out; omega⟩, rfl, HM2, HB2, HZ3⟩
  ·have hd : decide ((k : Int) < (l.length : Int)) = false := dF (by omega)
   have HE : Aside0 (Z = true) := ⟨by rw [← HZ.out, List.drop_eq_nil_iff.2 (by omega)]; rfl⟩
   go_wp2_with fail
   go_ret
   rw [HE.out]
   exact ⟨rfl, HB.out⟩
theorem gspread_nil (A : Option Addr) (c : Nat) (w : World) : Calls Tryz.prog 32 #[.slice A 0 c] w fun e w' => e = .returned (.tuple #[.int .i64 0, .bool false]) ∧ w' = w := by
 go_enter Tryz.func32, Tryz.ntmps32
 go_wp2
 go_ret2
 exact ⟨rfl, rfl⟩
theorem index_nil (A : Option Addr) (c : Nat) (v : Value) (w : World) : Calls Tryz.prog 53 #[.slice A 0 c, v] w fun e w' => e = .returned (.int .i64 (-1)) ∧ w' = w := by
 go_enter Tryz.func53, Tryz.ntmps53
 go_wp2
 refine wp_loop_rounds 1 ?_
 rw [rounds_succ]
 go_wp2
 go_ret
 exact ⟨rfl, rfl⟩
theorem contains_nil (A : Option Addr) (c : Nat) (v : Value) (w : World) : Calls Tryz.prog 26 #[.slice A 0 c, v] w fun e w' => e = .returned (.bool false) ∧ w' = w := by
 go_enter Tryz.func26, Tryz.ntmps26
 go_wp2_with fail
 refine (index_nil A c v w).mono ?_
 rintro e w1 ⟨rfl, rfl⟩
 go_wp2_with fail
 go_ret
 exact ⟨rfl, rfl⟩
theorem spread_nil (w : World) : Calls Tryz.prog 16 #[.agg #[.slice none 0 0, .bool false, .int .i64 0, .slice none 0 0]] w fun e w' => e = .returned (.tuple #[.int .i64 0, .bool false]) ∧ Below w.heap.size w w' := by
 go_enter Tryz.func16, Tryz.ntmps16
 go_wp2_with fail
 have HB := am (below_alloc (Below.refl w.heap.size w) (.cells #[.slice none 0 0, .bool false, .int .i64 0, .slice none 0 0] 37))
 refine (watch_starts.calls 9 none 0 [] false 0 none 0 [] [] _ (Kd.C_nil _ _) (Nat.le_refl _) (Kd.C_nil _ _) (Nat.le_refl _) rfl).mono ?_
 rintro e w1 ⟨v, rfl, ho, hb⟩
 obtain ⟨A, c, rfl⟩ := Kd.R_slice ho
 have HB1 := am (below_step HB.out hb)
 clear ho hb
 go_wp2_with fail
 refine (gspread_nil A c w1).mono ?_
 rintro e w2 ⟨rfl, rfl⟩
 go_wp2_with fail
 go_ret2
 exact ⟨rfl, HB1.out⟩
theorem agree_nil (w : World) : Calls Tryz.prog 20 #[.agg #[.slice none 0 0, .bool false, .int .i64 0, .slice none 0 0]] w fun e w' => e = .returned (.bool true) ∧ Below w.heap.size w w' := by
 go_enter Tryz.func20, Tryz.ntmps20
 go_wp2_with fail
 have HB := am (below_alloc (Below.refl w.heap.size w) (.cells #[.slice none 0 0, .bool false, .int .i64 0, .slice none 0 0] 37))
 refine (watch_synced.calls 9 (fun _ => False) none 0 [] false 0 none 0 [] [] _ (Kd.V_nil _ _ _ _ _) (Kd.C_nil _ _) (Nat.le_refl _) rfl).mono ?_
 rintro e w1 ⟨v, rfl, ho, hb⟩
 obtain ⟨A, c, rfl⟩ := Kd.N_slice ho
 have HB1 := am (below_step HB.out hb)
 clear ho hb
 go_wp2_with fail
 have HB2 := am (below_alloc HB1.out (.cells #[.slice A ([] : List S55).length c] 32))
 refine (contains_nil A c _ _).mono ?_
 rintro e w2 ⟨rfl, rfl⟩
 go_wp2_with fail
 go_ret
 exact ⟨rfl, HB2.out⟩
theorem base_nil (w : World) : Calls Tryz.prog 9 #[.agg #[.slice none 0 0, .slice none 0 0, .int .i64 0, .int .i64 0, .int .i64 0, .int .i64 0, .int .i64 0, .int .i64 0, .int .i64 0, .int .i64 0, .int .i64 0, .int .i64 0, .int .i64 0], .slice none 0 0] w fun e w' => e = .returned (.tuple #[.int .i64 (-1), .bool false]) ∧ Below w.heap.size w w' := by
 go_enter Tryz.func9, Tryz.ntmps9
 go_wp2_with fail
 refine wp_loop_rounds 1 ?_
 rw [rounds_succ]
 go_wp2_with fail
 go_ret2
 exact ⟨rfl, by repeat (first | exact Below.refl _ _ | apply below_alloc)⟩
theorem one_got (w : World) (a b : Int) (g : Bool) : Kd.C lgk (w.alloc (.cells #[.int .i64 a, .int .i64 b, .bool g, .slice none 0 0] 52)) (some ⟨w.heap.size, 0, none⟩) [(⟨a, b, g, []⟩ : S52)].length [⟨a, b, g, []⟩] := by
 have hb := heap_alloc_new w (.cells #[.int .i64 a, .int .i64 b, .bool g, .slice none 0 0] 52)
 refine ⟨rfl, (show (1 : Nat) ≤ 9223372036854775807 by decide), fun _ => ⟨_, rfl, fun j p hp => ?_⟩⟩
 cases j with
 | zero =>
  simp only [List.getElem?_cons_zero, Option.some.injEq] at hp
  subst hp
  refine ⟨[.int .i64 a, .int .i64 b, .bool g, .slice none 0 0], rfl, ⟨none, 0, 0, rfl⟩, fun i u hu => ?_⟩
  have e : (⟨w.heap.size, 0, none⟩ : Addr).add (0 * lgk.sz + i) = ⟨w.heap.size, i, none⟩ := by rw [Nat.zero_mul, Nat.zero_add, add_at, Nat.zero_add]
  rw [e]
  exact (blk_cell hb i).trans (by rw [← hu]; simp)
 | succ j => simp at hp
theorem alive_walk (w : World) : Calls Tryz.prog 7 #[] w fun e w' => e = .returned (.bool true) ∧ Below w.heap.size w w' := by
 go_enter Tryz.func7, Tryz.ntmps7
 go_wp2_with fail
 refine (spread_nil _).mono ?_
 rintro e w1 ⟨rfl, hb⟩
 have HB1 := am hb
 clear hb
 go_wp2_with fail
 refine (base_nil _).mono ?_
 rintro e w2 ⟨rfl, hb⟩
 have HB2 := am (below_step HB1.out hb)
 clear hb
 go_wp2_with fail
 refine (agree_nil _).mono ?_
 rintro e w3 ⟨rfl, hb⟩
 have HB3 := am (below_step HB2.out hb)
 clear hb
 go_wp2_with fail
 have HA4 := am (below_alloc HB3.out (.cells #[.int .i64 1, .int .i64 2, .bool true, .slice none 0 0] 52))
 refine (order_walk (some ⟨w3.heap.size, 0, none⟩) 1 [⟨1, 2, true, []⟩] _ (one_got w3 1 2 true) (by decide) (by simp; decide)).mono ?_
 rintro e w4 ⟨rfl, hb⟩
 rw [show ordM (fun _ => 0) [⟨1, 2, true, []⟩] = true by simp [ordM, wrap64]]
 have HB4 := am (below_step HA4.out hb)
 clear hb
 go_wp2_with fail
 have HA5 := am (below_alloc HB4.out (.cells #[.int .i64 1, .int .i64 2, .bool false, .slice none 0 0] 52))
 refine (order_walk (some ⟨w4.heap.size, 0, none⟩) 1 [⟨1, 2, false, []⟩] _ (one_got w4 1 2 false) (by decide) (by simp; decide)).mono ?_
 rintro e w5 ⟨rfl, hb⟩
 have HB5 := am (below_step HA5.out hb)
 clear hb
 rw [show ordM (fun _ => 0) [⟨1, 2, false, []⟩] = false by simp [ordM, wrap64]]
 go_wp2_with fail
 go_ret
 exact ⟨rfl, HB5.out⟩
end Go.Proofs.YtbefbhghmommhaaGreatDoor.MWo
namespace Go.Proofs.YtbefbhghmommhaaGreatDoor.MWo
open Go.RowKit Go.Proofs.YtbefbhghmommhaaGreatDoorW.PrintWords Go.Proofs.YtbefbhghmommhaaGreatDoorW.PrintLast Go.Proofs.YtbefbhghmommhaaGreatDoorW.PrintMore
attribute [local go_sem] mp_u32s mp_u32m mp_u8s mp_u8m max2_int min2_int max_two min_two max_three min_three max_four min_four
set_option linter.unusedVariables false
set_option linter.unusedSimpArgs false
mutual
def dl28_small.l0 : Nat → List (S37) → Int → Option (Bool)
 | 0, _, _ => none
 | k + 1, x0, x3 => if x3 < (x0.length : Int) then (if 0 ≤ x3 then (if (((rd_T37 x0 x3).f0).length : Int) > 20 then (dl28_small.j1 k x0 x3 true) else (dl28_small.j1 k x0 x3 (decide ((((rd_T37 x0 x3).f1.f2).length : Int) > 20)))) else (none)) else (some true)
def dl28_small.j1 : Nat → List (S37) → Int → Bool → Option (Bool)
 | 0, _, _, _ => none
 | k + 1, x0, x3, x30 => if x30 = true then (some false) else (dl28_small.l1 k x0 x3 0)
def dl28_small.l1 : Nat → List (S37) → Int → Int → Option (Bool)
 | 0, _, _, _ => none
 | k + 1, x0, x3, x4 => if 0 ≤ x3 then (if x3 < (x0.length : Int) then (if x4 < (((rd_T37 x0 x3).f0).length : Int) then (if 0 ≤ x4 then (if (((rd_T55 ((rd_T37 x0 x3).f0) x4).f5).length : Int) > 20 then (some false) else (dl28_small.l1 k x0 x3 (wrap64 (x4 + 1)))) else (none)) else (dl28_small.l0 k x0 (wrap64 (x3 + 1)))) else (none)) else (none)
end
def dl28_small.f (k : Nat) (l0 : List (S37)) : Option (Bool) := if (l0.length : Int) > 20 then (some false) else (dl28_small.l0 k l0 0)
set_option maxHeartbeats 8000000 in
set_option maxRecDepth 100000 in
theorem dl28_small.calls (k : Nat) (A0 : Option Addr) (c0 : Nat) (l0 : List (S37)) (r : Bool) (w : World) (hr0 : Kd.C k37 w A0 l0.length l0) (hc0 : l0.length ≤ c0) (h : dl28_small.f k l0 = some r) :
  Calls Tryz.prog 8 #[.slice A0 l0.length c0] w fun e w' => e = .returned (.bool r) ∧ Drawn0 w w' := by
 have HR0 := am hr0
 have HC0 := am hc0
 clear hr0 hc0
 have H : (if (l0.length : Int) > 20 then (some false) else (dl28_small.l0 k l0 0)) = some r := h
 clear h
 by_cases c2 : (l0.length : Int) > 20
 ·rw [if_pos c2] at H
  have c2b0 : decide (20 < (l0.length : Int)) = true := dT c2
  have c2b1 : decide (20 < l0.length) = true := dT (by omega)
  clear c2
  obtain rfl := Option.some.inj H
  go_enter Tryz.func8, Tryz.ntmps8
  go_wp2
  go_ret
  exact ⟨sd, dn⟩
 ·rw [if_neg c2] at H
  have c2b0 : decide (20 < (l0.length : Int)) = false := dF c2
  have c2b1 : decide (20 < l0.length) = false := dF (by omega)
  clear c2
  have H' := am H
  clear H
  go_enter Tryz.func8, Tryz.ntmps8
  go_wp2
  go_loopg [3] k (fun kq v3 w' => ∃ (x3_1 : Int), v3 = .int .i64 x3_1 ∧ Aside0 (dl28_small.l0 kq l0 x3_1 = some r) ∧ Aside0 (kq ≤ k) ∧ Drawn0 w w')
  case atStart => exact ⟨(0), bx, H', ⟨Nat.le_refl _⟩, dn⟩
  case round =>
   clear H'
   try clear c2
   try clear c2b0
   try clear c2b1
   try clear p2
   obtain ⟨x3_1, rfl, HA, HK1, ⟨m1, rfl⟩⟩ := hrel
   cases gk with
   | zero => exact absurd HA.out (by simp [dl28_small.l0])
   | succ k1 =>
    have H := HA.out
    clear HA
    simp only [dl28_small.l0] at H
    by_cases c3 : x3_1 < (l0.length : Int)
    ·rw [if_pos c3] at H
     have c3b0 : decide (x3_1 < (l0.length : Int)) = true := dT c3
     clear c3
     have HC4 := am H
     clear H
     go_upto_region 6 with (fail)
     go_cut [30] (fun v30 wc => ∃ (kq : Nat) (x30_3 : Bool), v30 = .bool x30_3 ∧ Aside0 (dl28_small.j1 kq l0 x3_1 x30_3 = some r) ∧ Aside0 (kq ≤ k1) ∧ Drawn0 w wc)
     case first =>
      have H := HC4.out
      clear HC4
      by_cases c5 : 0 ≤ x3_1
      ·rw [if_pos c5] at H
       have c5b0 : decide (0 ≤ x3_1) = true := dT c5
       clear c5
       (first | rw [c5b0] | (simp only [i64_w, i32_w]; rw [c5b0]) | skip)
       by_cases c6 : (((rd_T37 l0 x3_1).f0).length : Int) > 20
       ·rw [if_pos c6] at H
        have c6b0 : decide (20 < (((rd_T37 l0 x3_1).f0).length : Int)) = true := dT c6
        have c6b1 : decide (20 < ((rd_T37 l0 x3_1).f0).length) = true := dT (by omega)
        clear c6
        have H' := am H
        clear H
        have p184 : 0 ≤ (x3_1 : Int) := oT asm
        have q184 : x3_1 < (l0.length : Int) := oT asm
        obtain ⟨ad184, A184_0, c184_0, A184_3, c184_3, e184, hx184_0, hx184_1, hx184_2, hx184_3, hl184_0, hi184_0, hl184_3, hi184_3⟩ := at_T37 HR0.out x3_1 p184 q184
        cases e184
        have HR184_0 := am hi184_0
        have HC184_0 := am hl184_0
        clear hi184_0 hl184_0
        have HR184_3 := am hi184_3
        have HC184_3 := am hl184_3
        clear hi184_3 hl184_3
        replace p184 := eq_true p184
        replace q184 := eq_true q184
        go_wp2
        go_meet
        case rel => exact ⟨_, (true), bx, H', ⟨by have := HK1.out; first | omega | exact Nat.le_refl _⟩, dn⟩
       ·rw [if_neg c6] at H
        have c6b0 : decide (20 < (((rd_T37 l0 x3_1).f0).length : Int)) = false := dF c6
        have c6b1 : decide (20 < ((rd_T37 l0 x3_1).f0).length) = false := dF (by omega)
        clear c6
        have H' := am H
        clear H
        have p184 : 0 ≤ (x3_1 : Int) := oT asm
        have q184 : x3_1 < (l0.length : Int) := oT asm
        obtain ⟨ad184, A184_0, c184_0, A184_3, c184_3, e184, hx184_0, hx184_1, hx184_2, hx184_3, hl184_0, hi184_0, hl184_3, hi184_3⟩ := at_T37 HR0.out x3_1 p184 q184
        cases e184
        have HR184_0 := am hi184_0
        have HC184_0 := am hl184_0
        clear hi184_0 hl184_0
        have HR184_3 := am hi184_3
        have HC184_3 := am hl184_3
        clear hi184_3 hl184_3
        replace p184 := eq_true p184
        replace q184 := eq_true q184
        have p185 : 0 ≤ (x3_1 : Int) := oT asm
        have q185 : x3_1 < (l0.length : Int) := oT asm
        obtain ⟨ad185, A185_0, c185_0, A185_3, c185_3, e185, hx185_0, hx185_1, hx185_2, hx185_3, hl185_0, hi185_0, hl185_3, hi185_3⟩ := at_T37 HR0.out x3_1 p185 q185
        obtain rfl : ad184 = ad185 := (by injection e185)
        have HR185_0 := am hi185_0
        have HC185_0 := am hl185_0
        clear hi185_0 hl185_0
        have HR185_3 := am hi185_3
        have HC185_3 := am hl185_3
        clear hi185_3 hl185_3
        replace p185 := eq_true p185
        replace q185 := eq_true q185
        have ea_ := Option.some.inj (hx184_0.symm.trans hx185_0)
        injection ea_ with ea_ en_ ec_
        subst ea_
        subst ec_
        clear en_
        have ea_ := Option.some.inj (hx184_3.symm.trans hx185_3)
        injection ea_ with ea_ en_ ec_
        subst ea_
        subst ec_
        clear en_
        go_wp2
        go_meet
        case rel => exact ⟨_, (decide ((((rd_T37 l0 x3_1).f1.f2).length : Int) > 20)), bx, H', ⟨by have := HK1.out; first | omega | exact Nat.le_refl _⟩, dn⟩
      ·rw [if_neg c5] at H
       exact absurd H (by simp)
     case rest =>
      clear HC4
      try clear c1
      try clear p1
      try clear q1
      try clear hx1
      try clear c2
      try clear c2b0
      try clear c2b1
      try clear p2
      try clear c3
      try clear c3b0
      try clear c5
      try clear c5b0
      try clear c6
      try clear c6b0
      try clear c6b1
      try clear hx184_0
      try clear hx184_1
      try clear hx184_2
      try clear hx184_3
      try clear hx185_0
      try clear hx185_1
      try clear hx185_2
      try clear hx185_3
      try clear p184
      try clear p185
      try clear p2
      try clear q184
      try clear q185
      obtain ⟨kq, x30_3, rfl, HA, HJ3, ⟨mc3, rfl⟩⟩ := hcut
      cases kq with
      | zero => exact absurd HA.out (by simp [dl28_small.j1])
      | succ kj3 =>
       have H := HA.out
       clear HA
       simp only [dl28_small.j1] at H
       by_cases c7 : x30_3 = true
       ·subst c7
        have H1 : (some false) = some r := by rw [if_pos rfl] at H; exact H
        clear H
        have H := H1
        clear H1
        obtain rfl := Option.some.inj H
        go_wp2
        go_ret
        exact ⟨sd, dn⟩
       ·replace c7 := Bool.eq_false_iff.mpr c7
        subst c7
        have H1 : (dl28_small.l1 kj3 l0 x3_1 0) = some r := by rw [if_neg (show ¬ (false = true) by decide)] at H; exact H
        clear H
        have H := H1
        clear H1
        have H' := am H
        clear H
        go_wp2
        go_loopg [4] kj3 (fun kq v4 w' => ∃ (x4_3 : Int), v4 = .int .i64 x4_3 ∧ Aside0 (dl28_small.l1 kq l0 x3_1 x4_3 = some r) ∧ Aside0 (kq ≤ kj3) ∧ Drawn0 w w')
        case atStart => exact ⟨(0), bx, H', ⟨Nat.le_refl _⟩, dn⟩
        case round =>
         clear H'
         try clear c1
         try clear p1
         try clear q1
         try clear hx1
         try clear c2
         try clear c2b0
         try clear c2b1
         try clear p2
         try clear c3
         try clear c3b0
         try clear c5
         try clear c5b0
         try clear c6
         try clear c6b0
         try clear c6b1
         try clear c7
         try clear hx184_0
         try clear hx184_1
         try clear hx184_2
         try clear hx184_3
         try clear hx185_0
         try clear hx185_1
         try clear hx185_2
         try clear hx185_3
         try clear p1
         try clear p184
         try clear p185
         try clear p2
         try clear q1
         try clear q184
         try clear q185
         obtain ⟨x4_3, rfl, HA, HK3, ⟨m3, rfl⟩⟩ := hrel
         cases gk with
         | zero => exact absurd HA.out (by simp [dl28_small.l1])
         | succ k3 =>
          have H := HA.out
          clear HA
          simp only [dl28_small.l1] at H
          by_cases c8 : 0 ≤ x3_1
          ·rw [if_pos c8] at H
           have c8b0 : decide (0 ≤ x3_1) = true := dT c8
           clear c8
           by_cases c9 : x3_1 < (l0.length : Int)
           ·rw [if_pos c9] at H
            have c9b0 : decide (x3_1 < (l0.length : Int)) = true := dT c9
            clear c9
            by_cases c10 : x4_3 < (((rd_T37 l0 x3_1).f0).length : Int)
            ·rw [if_pos c10] at H
             have c10b0 : decide (x4_3 < (((rd_T37 l0 x3_1).f0).length : Int)) = true := dT c10
             clear c10
             by_cases c11 : 0 ≤ x4_3
             ·rw [if_pos c11] at H
              have c11b0 : decide (0 ≤ x4_3) = true := dT c11
              clear c11
              by_cases c12 : (((rd_T55 ((rd_T37 l0 x3_1).f0) x4_3).f5).length : Int) > 20
              ·rw [if_pos c12] at H
               have c12b0 : decide (20 < (((rd_T55 ((rd_T37 l0 x3_1).f0) x4_3).f5).length : Int)) = true := dT c12
               have c12b1 : decide (20 < ((rd_T55 ((rd_T37 l0 x3_1).f0) x4_3).f5).length) = true := dT (by omega)
               clear c12
               obtain rfl := Option.some.inj H
               have p186 : 0 ≤ (x3_1 : Int) := oT asm
               have q186 : x3_1 < (l0.length : Int) := oT asm
               obtain ⟨ad186, A186_0, c186_0, A186_3, c186_3, e186, hx186_0, hx186_1, hx186_2, hx186_3, hl186_0, hi186_0, hl186_3, hi186_3⟩ := at_T37 HR0.out x3_1 p186 q186
               cases e186
               have HR186_0 := am hi186_0
               have HC186_0 := am hl186_0
               clear hi186_0 hl186_0
               have HR186_3 := am hi186_3
               have HC186_3 := am hl186_3
               clear hi186_3 hl186_3
               replace p186 := eq_true p186
               replace q186 := eq_true q186
               have p187 : 0 ≤ (x3_1 : Int) := oT asm
               have q187 : x3_1 < (l0.length : Int) := oT asm
               obtain ⟨ad187, A187_0, c187_0, A187_3, c187_3, e187, hx187_0, hx187_1, hx187_2, hx187_3, hl187_0, hi187_0, hl187_3, hi187_3⟩ := at_T37 HR0.out x3_1 p187 q187
               obtain rfl : ad186 = ad187 := (by injection e187)
               have HR187_0 := am hi187_0
               have HC187_0 := am hl187_0
               clear hi187_0 hl187_0
               have HR187_3 := am hi187_3
               have HC187_3 := am hl187_3
               clear hi187_3 hl187_3
               replace p187 := eq_true p187
               replace q187 := eq_true q187
               have ea_ := Option.some.inj (hx186_0.symm.trans hx187_0)
               injection ea_ with ea_ en_ ec_
               subst ea_
               subst ec_
               clear en_
               have ea_ := Option.some.inj (hx186_3.symm.trans hx187_3)
               injection ea_ with ea_ en_ ec_
               subst ea_
               subst ec_
               clear en_
               have p188 : 0 ≤ (x4_3 : Int) := oT asm
               have q188 : x4_3 < (((rd_T37 l0 x3_1).f0).length : Int) := oT asm
               obtain ⟨ad188, A188_5, c188_5, e188, hx188_0, hx188_1, hx188_2, hx188_3, hx188_4, hx188_5, hx188_6, hx188_7, hl188_5, hi188_5⟩ := at_T55 HR187_0.out x4_3 p188 q188
               cases e188
               have HR188_5 := am hi188_5
               have HC188_5 := am hl188_5
               clear hi188_5 hl188_5
               replace p188 := eq_true p188
               replace q188 := eq_true q188
               go_wp2
               go_ret
               exact ⟨sd, dn⟩
              ·rw [if_neg c12] at H
               have c12b0 : decide (20 < (((rd_T55 ((rd_T37 l0 x3_1).f0) x4_3).f5).length : Int)) = false := dF c12
               have c12b1 : decide (20 < ((rd_T55 ((rd_T37 l0 x3_1).f0) x4_3).f5).length) = false := dF (by omega)
               clear c12
               have H' := am H
               clear H
               have p186 : 0 ≤ (x3_1 : Int) := oT asm
               have q186 : x3_1 < (l0.length : Int) := oT asm
               obtain ⟨ad186, A186_0, c186_0, A186_3, c186_3, e186, hx186_0, hx186_1, hx186_2, hx186_3, hl186_0, hi186_0, hl186_3, hi186_3⟩ := at_T37 HR0.out x3_1 p186 q186
               cases e186
               have HR186_0 := am hi186_0
               have HC186_0 := am hl186_0
               clear hi186_0 hl186_0
               have HR186_3 := am hi186_3
               have HC186_3 := am hl186_3
               clear hi186_3 hl186_3
               replace p186 := eq_true p186
               replace q186 := eq_true q186
               have p187 : 0 ≤ (x3_1 : Int) := oT asm
               have q187 : x3_1 < (l0.length : Int) := oT asm
               obtain ⟨ad187, A187_0, c187_0, A187_3, c187_3, e187, hx187_0, hx187_1, hx187_2, hx187_3, hl187_0, hi187_0, hl187_3, hi187_3⟩ := at_T37 HR0.out x3_1 p187 q187
               obtain rfl : ad186 = ad187 := (by injection e187)
               have HR187_0 := am hi187_0
               have HC187_0 := am hl187_0
               clear hi187_0 hl187_0
               have HR187_3 := am hi187_3
               have HC187_3 := am hl187_3
               clear hi187_3 hl187_3
               replace p187 := eq_true p187
               replace q187 := eq_true q187
               have ea_ := Option.some.inj (hx186_0.symm.trans hx187_0)
               injection ea_ with ea_ en_ ec_
               subst ea_
               subst ec_
               clear en_
               have ea_ := Option.some.inj (hx186_3.symm.trans hx187_3)
               injection ea_ with ea_ en_ ec_
               subst ea_
               subst ec_
               clear en_
               have p188 : 0 ≤ (x4_3 : Int) := oT asm
               have q188 : x4_3 < (((rd_T37 l0 x3_1).f0).length : Int) := oT asm
               obtain ⟨ad188, A188_5, c188_5, e188, hx188_0, hx188_1, hx188_2, hx188_3, hx188_4, hx188_5, hx188_6, hx188_7, hl188_5, hi188_5⟩ := at_T55 HR187_0.out x4_3 p188 q188
               cases e188
               have HR188_5 := am hi188_5
               have HC188_5 := am hl188_5
               clear hi188_5 hl188_5
               replace p188 := eq_true p188
               replace q188 := eq_true q188
               go_wp2
               go_roundg k3
               case measure => have := HK1.out; have := HJ3.out; have := HK3.out; omega
               case rel => exact ⟨(wrap64 (x4_3 + 1)), bx, H', ⟨by have := HK1.out; have := HJ3.out; have := HK3.out; omega⟩, dn⟩
             ·rw [if_neg c11] at H
              exact absurd H (by simp)
            ·rw [if_neg c10] at H
             have c10b0 : decide (x4_3 < (((rd_T37 l0 x3_1).f0).length : Int)) = false := dF c10
             clear c10
             have H' := am H
             clear H
             have p186 : 0 ≤ (x3_1 : Int) := oT asm
             have q186 : x3_1 < (l0.length : Int) := oT asm
             obtain ⟨ad186, A186_0, c186_0, A186_3, c186_3, e186, hx186_0, hx186_1, hx186_2, hx186_3, hl186_0, hi186_0, hl186_3, hi186_3⟩ := at_T37 HR0.out x3_1 p186 q186
             cases e186
             have HR186_0 := am hi186_0
             have HC186_0 := am hl186_0
             clear hi186_0 hl186_0
             have HR186_3 := am hi186_3
             have HC186_3 := am hl186_3
             clear hi186_3 hl186_3
             replace p186 := eq_true p186
             replace q186 := eq_true q186
             go_wp2
             go_roundg k3
             case measure => have := HK1.out; have := HJ3.out; have := HK3.out; omega
             case rel => exact ⟨(wrap64 (x3_1 + 1)), bx, H', ⟨by have := HK1.out; have := HJ3.out; have := HK3.out; omega⟩, dn⟩
           ·rw [if_neg c9] at H
            exact absurd H (by simp)
          ·rw [if_neg c8] at H
           exact absurd H (by simp)
    ·rw [if_neg c3] at H
     have c3b0 : decide (x3_1 < (l0.length : Int)) = false := dF c3
     clear c3
     obtain rfl := Option.some.inj H
     go_wp2
     go_ret
     exact ⟨sd, dn⟩
end Go.Proofs.YtbefbhghmommhaaGreatDoor.MWo
set_option linter.unusedVariables false
set_option linter.unusedSimpArgs false
set_option maxRecDepth 100000
namespace Go.Proofs.YtbefbhghmommhaaGreatDoor.MWo
open Go.RowKit Go.Proofs.YtbefbhghmommhaaGreatDoorW.PrintWords Go.Proofs.YtbefbhghmommhaaGreatDoorW.PrintLast Go.Proofs.YtbefbhghmommhaaGreatDoorW.PrintMore Go.Proofs.YtbefbhghmommhaaGreatDoor.Evl
def smC (x : S37) : Bool := decide (x.f0.length ≤ 20) && (decide (x.f1.f2.length ≤ 20) && x.f0.all fun y => decide (y.f5.length ≤ 20))
def smallB (l : List S37) : Bool := decide (l.length ≤ 20) && l.all smC
theorem rd_c {l : List S37} {i : Nat} (h : i < l.length) : rd_T37 l (i : Int) = l[i] := by simp [rd_T37, h]
theorem rd_m {l : List S55} {i : Nat} (h : i < l.length) : rd_T55 l (i : Int) = l[i] := by simp [rd_T55, h]
theorem small_l1 {l : List S37} (hl : l.length ≤ 20) {i : Nat} (hi : i < l.length) (hn : (l[i]).f0.length ≤ 20) {R : Bool} (hR : Evl (fun k => dl28_small.l0 k l ((i + 1 : Nat) : Int)) R) :
  ∀ (d j : Nat), j + d = (l[i]).f0.length → Evl (fun k => dl28_small.l1 k l (i : Int) (j : Int)) (((l[i]).f0.drop j).all (fun y => decide (y.f5.length ≤ 20)) && R)
 | 0, j, h => by
  refine Evl.succ ?_
  simp only [dl28_small.l1]
  simp only [if_pos (show (0 : Int) ≤ (i : Int) by omega), if_pos (show (i : Int) < (l.length : Int) by omega), rd_c hi, if_neg (show ¬ ((j : Int) < ((l[i]).f0.length : Int)) by omega), List.drop_eq_nil_iff.2 (show (l[i]).f0.length ≤ j by omega), w64n (show i < 2000000 by omega)]
  simpa using hR
 | d + 1, j, h => by
  have hj : j < (l[i]).f0.length := by omega
  refine Evl.succ ?_
  simp only [dl28_small.l1]
  simp only [if_pos (show (0 : Int) ≤ (i : Int) by omega), if_pos (show (i : Int) < (l.length : Int) by omega), rd_c hi, if_pos (show ((j : Int) < ((l[i]).f0.length : Int)) by omega), if_pos (show (0 : Int) ≤ (j : Int) by omega), rd_m hj, w64n (show j < 2000000 by omega)]
  rw [List.drop_eq_getElem_cons hj, List.all_cons]
  by_cases e : (((l[i]).f0[j]).f5).length ≤ 20
  ·simp only [if_neg (show ¬ ((((((l[i]).f0[j]).f5).length : Nat) : Int) > 20) by omega)]
   rw [show decide ((((l[i]).f0[j]).f5).length ≤ 20) = true from dT e, Bool.true_and]
   exact small_l1 hl hi hn hR d (j + 1) (by omega)
  ·simp only [if_pos (show ((((((l[i]).f0[j]).f5).length : Nat) : Int) > 20) by omega)]
   rw [show decide ((((l[i]).f0[j]).f5).length ≤ 20) = false from dF e]
   exact Evl.now fun _ => rfl
theorem small_l0 {l : List S37} (hl : l.length ≤ 20) : ∀ (d i : Nat), i + d = l.length → Evl (fun k => dl28_small.l0 k l (i : Int)) ((l.drop i).all smC)
 | 0, i, h => by
  refine Evl.succ ?_
  simp only [dl28_small.l0]
  simp only [if_neg (show ¬ ((i : Int) < (l.length : Int)) by omega), List.drop_eq_nil_iff.2 (show l.length ≤ i by omega)]
  exact Evl.now fun _ => rfl
 | d + 1, i, h => by
  have hi : i < l.length := by omega
  refine Evl.succ ?_
  simp only [dl28_small.l0]
  simp only [if_pos (show (i : Int) < (l.length : Int) by omega), if_pos (show (0 : Int) ≤ (i : Int) by omega), rd_c hi]
  rw [List.drop_eq_getElem_cons hi, List.all_cons]
  have ih := small_l0 hl d (i + 1) (by omega)
  unfold smC
  by_cases e : (l[i]).f0.length ≤ 20
  ·simp only [if_neg (show ¬ ((((l[i]).f0.length : Nat) : Int) > 20) by omega)]
   rw [show decide ((l[i]).f0.length ≤ 20) = true from dT e, Bool.true_and]
   refine Evl.succ ?_
   simp only [dl28_small.j1]
   by_cases e2 : (l[i]).f1.f2.length ≤ 20
   ·simp only [show decide (((((l[i]).f1.f2).length : Nat) : Int) > 20) = false from dF (by omega)]
    rw [show decide ((l[i]).f1.f2.length ≤ 20) = true from dT e2, Bool.true_and]
    have := small_l1 hl hi e (R := (l.drop (i + 1)).all smC) ih (l[i]).f0.length 0 (by omega)
    exact this
   ·simp only [show decide (((((l[i]).f1.f2).length : Nat) : Int) > 20) = true from dT (by omega)]
    rw [show decide ((l[i]).f1.f2.length ≤ 20) = false from dF e2]
    exact Evl.now fun _ => rfl
  ·simp only [if_pos (show ((((l[i]).f0.length : Nat) : Int) > 20) by omega)]
   rw [show decide ((l[i]).f0.length ≤ 20) = false from dF e]
   exact Evl.succ (Evl.now fun _ => rfl)
theorem small_evl (l : List S37) : Evl (fun k => dl28_small.f k l) (smallB l) := by
 unfold dl28_small.f smallB
 by_cases h : l.length ≤ 20
 ·simp only [if_neg (show ¬ ((l.length : Int) > 20) by omega)]
  rw [show decide (l.length ≤ 20) = true from dT h, Bool.true_and]
  exact small_l0 h l.length 0 (by omega)
 ·simp only [if_pos (show ((l.length : Int) > 20) by omega)]
  rw [show decide (l.length ≤ 20) = false from dF h]
  exact Evl.now fun _ => rfl
set_option linter.unusedVariables false
set_option linter.unusedSimpArgs false
set_option maxRecDepth 100000
set_option maxHeartbeats 8000000 in
theorem raw_law (A0 : Option Addr) (c0 : Nat) (P : List S68) (A1 : Option Addr) (c1 : Nat) (Q : List S71) (a2 a3 a4 a5 a6 a7 a8 a9 a10 a11 a12 : Int) (A : Option Addr) (c : Nat) (l : List S37) (w : World) (hN : NetAt w P A0 c0 Q A1 c1) (hC : Kd.C k37 w A l.length l) (hc : l.length ≤ c) (hG : Gv w) :
  Calls Tryz.prog 3 #[.agg #[.slice A0 P.length c0, .slice A1 Q.length c1, .int .i64 a2, .int .i64 a3, .int .i64 a4, .int .i64 a5, .int .i64 a6, .int .i64 a7, .int .i64 a8, .int .i64 a9, .int .i64 a10, .int .i64 a11, .int .i64 a12], .slice A l.length c] w fun e w' => e = .returned (.bool true) ∧ Below w.heap.size w w' := by
 have HN := am hN
 have HC := am (And.intro hC hc)
 have HV := am hG
 clear hN hC hc hG
 go_enter Tryz.func3, Tryz.ntmps3
 go_upto_region 1 with fail
 have HO : Aside0 ((w.alloc (.cells #[.slice A0 P.length c0, .slice A1 Q.length c1, .int .i64 a2, .int .i64 a3, .int .i64 a4, .int .i64 a5, .int .i64 a6, .int .i64 a7, .int .i64 a8, .int .i64 a9, .int .i64 a10, .int .i64 a11, .int .i64 a12] 25)).heap[w.heap.size]? = some (.cells #[.slice A0 P.length c0, .slice A1 Q.length c1, .int .i64 a2, .int .i64 a3, .int .i64 a4, .int .i64 a5, .int .i64 a6, .int .i64 a7, .int .i64 a8, .int .i64 a9, .int .i64 a10, .int .i64 a11, .int .i64 a12] 25)) := ⟨heap_alloc_new _ _⟩
 have HB := am (below_alloc (Below.refl w.heap.size w) (Obj.cells #[.slice A0 P.length c0, .slice A1 Q.length c1, .int .i64 a2, .int .i64 a3, .int .i64 a4, .int .i64 a5, .int .i64 a6, .int .i64 a7, .int .i64 a8, .int .i64 a9, .int .i64 a10, .int .i64 a11, .int .i64 a12] 25))
 generalize w.alloc (.cells #[.slice A0 P.length c0, .slice A1 Q.length c1, .int .i64 a2, .int .i64 a3, .int .i64 a4, .int .i64 a5, .int .i64 a6, .int .i64 a7, .int .i64 a8, .int .i64 a9, .int .i64 a10, .int .i64 a11, .int .i64 a12] 25) = w1 at *
 obtain ⟨bx, hbx⟩ : ∃ bx, bx = w.heap.size := ⟨_, rfl⟩
 rw [← hbx]
 rw [← hbx] at HO
 have HBX := am hbx
 clear hbx
 obtain ⟨x0, x1, x2, x3, x4, x5, x6, x7, x8, x9, x10, x11, x12⟩ := cellsK13 HO.out
 go_wp2_with fail
 clear x0 x1 x2 x3 x4 x5 x6 x7 x8 x9 x10 x11 x12
 refine (alive_walk w1).mono ?_
 rintro e w2 ⟨rfl, hb⟩
 have HB_ := am (below_step HB.out hb)
 have HO_ := am ((hb.block bx (blk_lt HO.out)).trans HO.out)
 clear HB HO
 have HB := HB_
 have HO := HO_
 clear HB_ HO_
 clear hb
 obtain ⟨x0, x1, x2, x3, x4, x5, x6, x7, x8, x9, x10, x11, x12⟩ := cellsK13 HO.out
 go_wp2_with fail
 clear x0 x1 x2 x3 x4 x5 x6 x7 x8 x9 x10 x11 x12
 obtain ⟨ks, hks⟩ := (small_evl l).some_
 refine (dl28_small.calls ks A c l _ w2 (Kd.C_below HC.out.1 HB.out) HC.out.2 hks).mono ?_
 rintro e w4 ⟨rfl, hd4⟩
 have hb4 := hd4.below
 clear hks hd4
 have HB_ := am (below_step HB.out hb4)
 have HO_ := am ((hb4.block bx (blk_lt HO.out)).trans HO.out)
 clear HB HO
 have HB := HB_
 have HO := HO_
 clear HB_ HO_
 clear hb4
 cases hsm : smallB l with
 | false =>
  obtain ⟨x0, x1, x2, x3, x4, x5, x6, x7, x8, x9, x10, x11, x12⟩ := cellsK13 HO.out
  go_wp2_with fail
  refine (alive_walk w4).mono ?_
  rintro e w9 ⟨rfl, hb⟩
  have HB9 := am (below_step HB.out hb)
  clear hb
  go_wp2_with fail
  go_ret
  exact ⟨rfl, HB9.out⟩
 | true =>
  have hm3 : l.length ≤ 20 ∧ ∀ x ∈ l, x.f0.length ≤ 20 ∧ x.f1.f2.length ≤ 20 ∧ ∀ y ∈ x.f0, y.f5.length ≤ 20 := by
   simp only [smallB, Bool.and_eq_true, decide_eq_true_eq, List.all_eq_true] at hsm
   refine ⟨hsm.1, fun x hx => ?_⟩
   have h1 := hsm.2 x hx
   simp only [smC, Bool.and_eq_true, decide_eq_true_eq, List.all_eq_true] at h1
   exact h1
  have HM := am hm3
  clear hsm hm3
  by_cases hp : (20 : Int) < P.length
  ·have hp1 : decide ((20 : Int) < (P.length : Int)) = true := dT hp
   obtain ⟨x0, x1, x2, x3, x4, x5, x6, x7, x8, x9, x10, x11, x12⟩ := cellsK13 HO.out
   go_wp2_with fail
   refine (alive_walk w4).mono ?_
   rintro e w9 ⟨rfl, hb⟩
   have HB9 := am (below_step HB.out hb)
   clear hb
   go_wp2_with fail
   go_ret
   exact ⟨rfl, HB9.out⟩
  have hp1 : decide ((20 : Int) < (P.length : Int)) = false := dF hp
  by_cases hq : (30 : Int) < Q.length
  ·have hq1 : decide ((30 : Int) < (Q.length : Int)) = true := dT hq
   obtain ⟨x0, x1, x2, x3, x4, x5, x6, x7, x8, x9, x10, x11, x12⟩ := cellsK13 HO.out
   go_wp2_with fail
   refine (alive_walk w4).mono ?_
   rintro e w9 ⟨rfl, hb⟩
   have HB9 := am (below_step HB.out hb)
   clear hb
   go_wp2_with fail
   go_ret
   exact ⟨rfl, HB9.out⟩
  have hq1 : decide ((30 : Int) < (Q.length : Int)) = false := dF hq
  have HPQ := am (show P.length ≤ 1000 ∧ Q.length ≤ 1000 by omega)
  obtain ⟨x0, x1, x2, x3, x4, x5, x6, x7, x8, x9, x10, x11, x12⟩ := cellsK13 HO.out
  go_wp2_with fail
  clear x0 x1 x2 x3 x4 x5 x6 x7 x8 x9 x10 x11 x12
  clear hp hq hp1 hq1
  have HGn := am (fun (W : World) (hb : Below w4.heap.size w4 W) (h : NetAt W P A0 c0 Q A1 c1) => gone_any A0 c0 P A1 c1 Q a2 a3 a4 a5 a6 a7 a8 a9 a10 a11 a12 W h (Gv.below (k := 0) HV.out (below_step HB.out hb)) HPQ.out.1 HPQ.out.2)
  have HRg := am (fun (W : World) (h : NetAt W P A0 c0 Q A1 c1) => dr5_Gone.calls A0 c0 P A1 c1 Q a2 a3 a4 a5 a6 a7 a8 a9 a10 a11 a12 _ W h.p h.cp h.q h.cq (rgone_eq P Q a2 a3 a4 a5 a6 a7 a8 a9 a10 a11 a12 HPQ.out.1 HPQ.out.2))
  have HCX := am (show ∀ x ∈ l, x.f0.length ≤ 1000 ∧ x.f1.f2.length ≤ 1000000 from fun x hx => by have := HM.out.2 x hx; exact ⟨by omega, by omega⟩)
  refine (base_walk A0 c0 P A1 c1 Q a2 a3 a4 a5 a6 a7 a8 a9 a10 a11 a12 A c l (gnV P Q a2 a6 a8 a7 a9) w4 (HN.out.below HB.out) (Kd.C_below HC.out.1 HB.out) (by have := HM.out.1; omega) HCX.out HGn.out).mono ?_
  rintro e w5 ⟨rfl, hb⟩
  have HB_ := am (below_step HB.out hb)
  have HO_ := am ((hb.block bx (blk_lt HO.out)).trans HO.out)
  clear HB HO
  have HB := HB_
  have HO := HO_
  clear HB_ HO_
  clear hb HGn
  obtain ⟨x0, x1, x2, x3, x4, x5, x6, x7, x8, x9, x10, x11, x12⟩ := cellsK13 HO.out
  go_wp2_with fail
  clear x0 x1 x2 x3 x4 x5 x6 x7 x8 x9 x10 x11 x12
  refine (rbase_walk A0 c0 P A1 c1 Q a2 a3 a4 a5 a6 a7 a8 a9 a10 a11 a12 A c l (gnV P Q a2 a6 a8 a7 a9) w5 (HN.out.below HB.out) (Kd.C_below HC.out.1 HB.out) (by have := HM.out.1; omega) HCX.out HRg.out).mono ?_
  rintro e w6 ⟨rfl, hb⟩
  rw [rb_base]
  have HB_ := am (below_step HB.out hb)
  have HO_ := am ((hb.block bx (blk_lt HO.out)).trans HO.out)
  clear HB HO
  have HB := HB_
  have HO := HO_
  clear HB_ HO_
  clear hb HRg
  generalize baseV (gnV P Q a2 a6 a8 a7 a9) l = bv
  obtain ⟨br, bb⟩ := bv
  dsimp only
  have e1 : (br == br) = true := beq_self_eq_true br
  have e2 : (bb == bb) = true := beq_self_eq_true bb
  go_upto_region 5 with fail
  by_cases hl0 : l = []
  ·have e3 : ((l.length : Int) == 0) = true := by rw [hl0]; rfl
   refine start_ (n := 27) (S := fun w' => True) (ds := []) #[false, false, false, false, false, false, false, false, false, false, false, false, false, false, false, false, false, false, false, false, false, false, false, false, false, false, false] (by kernel_rfl) rfl rfl trivial (fun hHeld => ?_)
   refine pu 0 41 ?_
   refine pu 1 42 ?_
   refine pu 2 43 ?_
   refine pu 3 44 ?_
   refine pu 4 45 ?_
   refine pu 5 46 ?_
   refine pu 6 47 ?_
   refine pu 7 48 ?_
   refine pu 8 49 ?_
   refine pu 9 50 ?_
   refine pu 10 51 ?_
   refine pu 11 52 ?_
   refine pu 12 53 ?_
   refine pure_ (i := 13) (N := some 54) (v := undef) (a' := ?_) #[true, true, true, true, true, true, true, true, true, true, true, true, true, true, false, false, false, false, false, false, false, false, false, false, false, false, false] rfl rfl (by kernel_rfl) (fun _ _ _ h => h) (Or.inr ⟨by rfl, rfl⟩) ?_ ?_
   rotate_left
   ·simp only [Act.put, sAa, sBb, sCc, i64_w, i32_w]
    rfl
   refine pure_ (i := 14) (N := some 55) (v := undef) (a' := ?_) #[true, true, true, true, true, true, true, true, true, true, true, true, true, true, true, false, false, false, false, false, false, false, false, false, false, false, false] rfl rfl (by kernel_rfl) (fun _ _ _ h => h) (Or.inr ⟨by rfl, rfl⟩) ?_ ?_
   rotate_left
   ·simp only [Act.put, sAa, sBb, sCc, i64_w, i32_w]
    rfl
   refine pure_ (i := 15) (N := some 56) (v := undef) (a' := ?_) #[true, true, true, true, true, true, true, true, true, true, true, true, true, true, true, true, false, false, false, false, false, false, false, false, false, false, false] rfl rfl (by kernel_rfl) (fun _ _ _ h => h) (Or.inr ⟨by rfl, rfl⟩) ?_ ?_
   rotate_left
   ·simp only [Act.put, sAa, sBb, sCc, i64_w, i32_w]
    rfl
   refine pure_ (i := 16) (N := some 57) (v := undef) (a' := ?_) #[true, true, true, true, true, true, true, true, true, true, true, true, true, true, true, true, true, false, false, false, false, false, false, false, false, false, false] rfl rfl (by kernel_rfl) (fun _ _ _ h => h) (Or.inr ⟨by rfl, rfl⟩) ?_ ?_
   rotate_left
   ·simp only [Act.put, sAa, sBb, sCc, i64_w, i32_w]
    rfl
   refine pure_ (i := 17) (N := some 58) (v := undef) (a' := ?_) #[true, true, true, true, true, true, true, true, true, true, true, true, true, true, true, true, true, true, false, false, false, false, false, false, false, false, false] rfl rfl (by kernel_rfl) (fun _ _ _ h => h) (Or.inr ⟨by rfl, rfl⟩) ?_ ?_
   rotate_left
   ·simp only [Act.put, sAa, sBb, sCc, i64_w, i32_w]
    rfl
   refine pure_ (i := 18) (N := some 59) (v := undef) (a' := ?_) #[true, true, true, true, true, true, true, true, true, true, true, true, true, true, true, true, true, true, true, false, false, false, false, false, false, false, false] rfl rfl (by kernel_rfl) (fun _ _ _ h => h) (Or.inr ⟨by rfl, rfl⟩) ?_ ?_
   rotate_left
   ·simp only [Act.put, sAa, sBb, sCc, i64_w, i32_w]
    rfl
   refine pure_ (i := 19) (N := some 60) (v := undef) (a' := ?_) #[true, true, true, true, true, true, true, true, true, true, true, true, true, true, true, true, true, true, true, true, false, false, false, false, false, false, false] rfl rfl (by kernel_rfl) (fun _ _ _ h => h) (Or.inr ⟨by rfl, rfl⟩) ?_ ?_
   rotate_left
   ·simp only [Act.put, sAa, sBb, sCc, i64_w, i32_w]
    rfl
   refine pure_ (i := 20) (N := some 61) (v := undef) (a' := ?_) #[true, true, true, true, true, true, true, true, true, true, true, true, true, true, true, true, true, true, true, true, true, false, false, false, false, false, false] rfl rfl (by kernel_rfl) (fun _ _ _ h => h) (Or.inr ⟨by rfl, rfl⟩) ?_ ?_
   rotate_left
   ·simp only [Act.put, sAa, sBb, sCc, i64_w, i32_w]
    rfl
   refine pure_ (i := 21) (N := some 62) (v := undef) (a' := ?_) #[true, true, true, true, true, true, true, true, true, true, true, true, true, true, true, true, true, true, true, true, true, true, false, false, false, false, false] rfl rfl (by kernel_rfl) (fun _ _ _ h => h) (Or.inr ⟨by rfl, rfl⟩) ?_ ?_
   rotate_left
   ·simp only [Act.put, sAa, sBb, sCc, i64_w, i32_w]
    rfl
   refine pure_ (i := 22) (N := some 63) (v := undef) (a' := ?_) #[true, true, true, true, true, true, true, true, true, true, true, true, true, true, true, true, true, true, true, true, true, true, true, false, false, false, false] rfl rfl (by kernel_rfl) (fun _ _ _ h => h) (Or.inr ⟨by rfl, rfl⟩) ?_ ?_
   rotate_left
   ·simp only [Act.put, sAa, sBb, sCc, i64_w, i32_w]
    rfl
   refine pure_ (i := 23) (N := some 64) (v := undef) (a' := ?_) #[true, true, true, true, true, true, true, true, true, true, true, true, true, true, true, true, true, true, true, true, true, true, true, true, false, false, false] rfl rfl (by kernel_rfl) (fun _ _ _ h => h) (Or.inr ⟨by rfl, rfl⟩) ?_ ?_
   rotate_left
   ·simp only [Act.put, sAa, sBb, sCc, i64_w, i32_w]
    rfl
   refine pu 24 65 ?_
   refine pu 25 66 ?_
   refine pu 26 4 ?_
   refine done_ (by kernel_rfl) ?_
   try go_wp2_with fail
   go_ret
   exact ⟨rfl, HB.out.drew⟩
  have e3 : ((l.length : Int) == 0) = false := by have := List.length_pos_iff.2 hl0; simp; omega
  have hl1 : 0 < l.length := List.length_pos_iff.2 hl0
  obtain ⟨ad, B0, d0, B3, d3, e, y0, y1, y2, y3, hd0, hD0, hd3, hD3⟩ := at_T37 (Kd.C_below HC.out.1 HB.out) 0 (Int.le_refl _) (by omega)
  subst e
  have hm := HM.out.2 (rd_T37 l 0) (by
   have e : rd_T37 l 0 = l[0] := by simp [rd_T37, List.getD_eq_getElem?_getD, hl1]
   rw [e]; exact List.getElem_mem hl1)
  generalize rd_T37 l 0 = x at *
  obtain ⟨xs, ⟨on, st, ag⟩⟩ := x
  dsimp only at y0 y1 y2 y3 hd0 hD0 hd3 hD3 hm
  have HX : Aside0 (CellAt w6 ⟨xs, ⟨on, st, ag⟩⟩ B0 d0 B3 d3) := ⟨⟨hD0, hd0, hD3, hd3⟩⟩
  have s7 := fun (W : World) (hb : Below w6.heap.size w6 W) => within_any A0 c0 P A1 c1 Q a2 a3 a4 a5 a6 a7 a8 a9 a10 a11 a12 B0 d0 xs on st B3 d3 ag (nrV P Q a2 a6 a8 a7 a9) W ((HN.out.below HB.out).below hb) (HX.out.below hb) (by omega) (fun z hz => by have := hm.2.2 z hz; omega) (fun W2 hb2 h2 => near_any A0 c0 P A1 c1 Q a2 a3 a4 a5 a6 a7 a8 a9 a10 a11 a12 W2 h2 (Gv.below (k := 0) HV.out (below_step (below_step HB.out hb) hb2)) HPQ.out.1 HPQ.out.2)
  obtain ⟨k8, s8⟩ := (rwithin_evl (l := xs) (by omega) (fun z hz => by have := hm.2.2 z hz; omega) P Q a2 a3 a4 a5 a6 a7 a8 a9 a10 a11 a12 on st ag (rnear_eq P Q a2 a3 a4 a5 a6 a7 a8 a9 a10 a11 a12 HPQ.out.1 HPQ.out.2)).some_
  generalize withinV (nrV P Q a2 a6 a8 a7 a9) xs (begs xs on st) = qw at s7 s8
  have S7 := am s7
  have S8 := am s8
  have e4 : (qw == qw) = true := beq_self_eq_true qw
  clear s7 s8 hl0 hD0 hd0 hD3 hd3 hm
  have dd0 : w6.drew.cell? ⟨bx, 0, none⟩ = some (.slice A0 P.length c0) := (blk_cell HO.out 0).trans rfl
  have dd1 : w6.drew.cell? ⟨bx, 1, none⟩ = some (.slice A1 Q.length c1) := (blk_cell HO.out 1).trans rfl
  have dd2 : w6.drew.cell? ⟨bx, 2, none⟩ = some (.int .i64 a2) := (blk_cell HO.out 2).trans rfl
  have dd3 : w6.drew.cell? ⟨bx, 3, none⟩ = some (.int .i64 a3) := (blk_cell HO.out 3).trans rfl
  have dd4 : w6.drew.cell? ⟨bx, 4, none⟩ = some (.int .i64 a4) := (blk_cell HO.out 4).trans rfl
  have dd5 : w6.drew.cell? ⟨bx, 5, none⟩ = some (.int .i64 a5) := (blk_cell HO.out 5).trans rfl
  have dd6 : w6.drew.cell? ⟨bx, 6, none⟩ = some (.int .i64 a6) := (blk_cell HO.out 6).trans rfl
  have dd7 : w6.drew.cell? ⟨bx, 7, none⟩ = some (.int .i64 a7) := (blk_cell HO.out 7).trans rfl
  have dd8 : w6.drew.cell? ⟨bx, 8, none⟩ = some (.int .i64 a8) := (blk_cell HO.out 8).trans rfl
  have dd9 : w6.drew.cell? ⟨bx, 9, none⟩ = some (.int .i64 a9) := (blk_cell HO.out 9).trans rfl
  have dd10 : w6.drew.cell? ⟨bx, 10, none⟩ = some (.int .i64 a10) := (blk_cell HO.out 10).trans rfl
  have dd11 : w6.drew.cell? ⟨bx, 11, none⟩ = some (.int .i64 a11) := (blk_cell HO.out 11).trans rfl
  have dd12 : w6.drew.cell? ⟨bx, 12, none⟩ = some (.int .i64 a12) := (blk_cell HO.out 12).trans rfl
  have dd13 : w6.drew.cell? ad = some (.slice B0 xs.length d0) := y0
  have dd14 : w6.drew.cell? ⟨ad.block, ad.off + 1, none⟩ = some (.bool on) := y1
  have dd15 : w6.drew.cell? ⟨ad.block, ad.off + 2, none⟩ = some (.int .i64 st) := y2
  have dd16 : w6.drew.cell? ⟨ad.block, ad.off + 3, none⟩ = some (.slice B3 ag.length d3) := y3
  clear y0 y1 y2 y3
  have KD := am (Below.refl w6.heap.size w6).drew
  refine start_ (n := 27) (S := fun w' => w'.cell? ⟨bx, 0, none⟩ = some (.slice A0 P.length c0) ∧ w'.cell? ⟨bx, 1, none⟩ = some (.slice A1 Q.length c1) ∧ w'.cell? ⟨bx, 2, none⟩ = some (.int .i64 a2) ∧ w'.cell? ⟨bx, 3, none⟩ = some (.int .i64 a3) ∧ w'.cell? ⟨bx, 4, none⟩ = some (.int .i64 a4) ∧ w'.cell? ⟨bx, 5, none⟩ = some (.int .i64 a5) ∧ w'.cell? ⟨bx, 6, none⟩ = some (.int .i64 a6) ∧ w'.cell? ⟨bx, 7, none⟩ = some (.int .i64 a7) ∧ w'.cell? ⟨bx, 8, none⟩ = some (.int .i64 a8) ∧ w'.cell? ⟨bx, 9, none⟩ = some (.int .i64 a9) ∧ w'.cell? ⟨bx, 10, none⟩ = some (.int .i64 a10) ∧ w'.cell? ⟨bx, 11, none⟩ = some (.int .i64 a11) ∧ w'.cell? ⟨bx, 12, none⟩ = some (.int .i64 a12) ∧ w'.cell? ad = some (.slice B0 xs.length d0) ∧ w'.cell? ⟨ad.block, ad.off + 1, none⟩ = some (.bool on) ∧ w'.cell? ⟨ad.block, ad.off + 2, none⟩ = some (.int .i64 st) ∧ w'.cell? ⟨ad.block, ad.off + 3, none⟩ = some (.slice B3 ag.length d3)) (ds := []) #[false, false, false, false, false, false, false, false, false, false, false, false, false, false, false, false, false, false, false, false, false, false, false, false, false, false, false] (by kernel_rfl) rfl rfl ⟨dd0, dd1, dd2, dd3, dd4, dd5, dd6, dd7, dd8, dd9, dd10, dd11, dd12, dd13, dd14, dd15, dd16⟩ (fun hHeld => ?_)
  refine pu 0 41 ?_
  refine pu 1 42 ?_
  refine pu 2 43 ?_
  refine pu 3 44 ?_
  refine pu 4 45 ?_
  refine pu 5 46 ?_
  refine pu 6 47 ?_
  refine pu 7 48 ?_
  refine pu 8 49 ?_
  refine pu 9 50 ?_
  refine pu 10 51 ?_
  refine pu 11 52 ?_
  refine pu 12 53 ?_
  refine pu 14 55 ?_
  refine pu 15 56 ?_
  refine pu 19 60 ?_
  refine pu 20 61 ?_
  refine tk17 13 54 ?_
  refine tk17 16 57 ?_
  refine tk17 18 59 ?_
  refine tk17 21 62 ?_
  refine MWo.on 17 58 (fun K hK => ?_)
  refine goes_ Tryz.func11 (by kernel_rfl) rfl #[.agg #[.slice A0 P.length c0, .slice A1 Q.length c1, .int .i64 a2, .int .i64 a3, .int .i64 a4, .int .i64 a5, .int .i64 a6, .int .i64 a7, .int .i64 a8, .int .i64 a9, .int .i64 a10, .int .i64 a11, .int .i64 a12], .agg #[.slice B0 xs.length d0, .bool on, .int .i64 st, .slice B3 ag.length d3]] (by rfl) rfl rfl lm ?_
  with_reducible refine (S7.out _ KD.out).mono ?_
  rintro e w13 ⟨rfl, hbK13⟩
  have K13 := am (below_step KD.out hbK13)
  have dc0 := (hbK13.cell (c_lt dd0)).trans dd0
  have dc1 := (hbK13.cell (c_lt dd1)).trans dd1
  have dc2 := (hbK13.cell (c_lt dd2)).trans dd2
  have dc3 := (hbK13.cell (c_lt dd3)).trans dd3
  have dc4 := (hbK13.cell (c_lt dd4)).trans dd4
  have dc5 := (hbK13.cell (c_lt dd5)).trans dd5
  have dc6 := (hbK13.cell (c_lt dd6)).trans dd6
  have dc7 := (hbK13.cell (c_lt dd7)).trans dd7
  have dc8 := (hbK13.cell (c_lt dd8)).trans dd8
  have dc9 := (hbK13.cell (c_lt dd9)).trans dd9
  have dc10 := (hbK13.cell (c_lt dd10)).trans dd10
  have dc11 := (hbK13.cell (c_lt dd11)).trans dd11
  have dc12 := (hbK13.cell (c_lt dd12)).trans dd12
  have dc13 := (hbK13.cell (c_lt dd13)).trans dd13
  have dc14 := (hbK13.cell (c_lt dd14)).trans dd14
  have dc15 := (hbK13.cell (c_lt dd15)).trans dd15
  have dc16 := (hbK13.cell (c_lt dd16)).trans dd16
  clear hbK13
  refine ⟨_, rfl, ?_⟩
  refine hK.out _ _ ⟨dc0, dc1, dc2, dc3, dc4, dc5, dc6, dc7, dc8, dc9, dc10, dc11, dc12, dc13, dc14, dc15, dc16⟩ (fun hHeld => ?_)
  clear hK K
  refine norm_ (a' := ?_) ?_ ?_
  rotate_left
  ·show Act.put _ (some 58) _ = _
   simp only [Act.put, sAa, sBb, sCc, i64_w, i32_w]
   rfl
  refine MWo.on 22 63 (fun K hK => ?_)
  refine goes_ Tryz.func12 (by kernel_rfl) rfl #[.agg #[.slice A0 P.length c0, .slice A1 Q.length c1, .int .i64 a2, .int .i64 a3, .int .i64 a4, .int .i64 a5, .int .i64 a6, .int .i64 a7, .int .i64 a8, .int .i64 a9, .int .i64 a10, .int .i64 a11, .int .i64 a12], .agg #[.slice B0 xs.length d0, .bool on, .int .i64 st, .slice B3 ag.length d3]] (by rfl) rfl rfl lm ?_
  with_reducible refine (dr26_Within.calls k8 A0 c0 P A1 c1 Q a2 a3 a4 a5 a6 a7 a8 a9 a10 a11 a12 B0 d0 xs on st B3 d3 ag _ _ ((HN.out.below HB.out).below K13.out).p ((HN.out.below HB.out).below K13.out).cp ((HN.out.below HB.out).below K13.out).q ((HN.out.below HB.out).below K13.out).cq (HX.out.below K13.out).r0 (HX.out.below K13.out).c0 (HX.out.below K13.out).r3 (HX.out.below K13.out).c3 S8.out).mono ?_
  rintro e w14 ⟨rfl, hbK14⟩
  have K14 := am (below_step K13.out hbK14)
  have de0 := (hbK14.cell (c_lt dc0)).trans dc0
  have de1 := (hbK14.cell (c_lt dc1)).trans dc1
  have de2 := (hbK14.cell (c_lt dc2)).trans dc2
  have de3 := (hbK14.cell (c_lt dc3)).trans dc3
  have de4 := (hbK14.cell (c_lt dc4)).trans dc4
  have de5 := (hbK14.cell (c_lt dc5)).trans dc5
  have de6 := (hbK14.cell (c_lt dc6)).trans dc6
  have de7 := (hbK14.cell (c_lt dc7)).trans dc7
  have de8 := (hbK14.cell (c_lt dc8)).trans dc8
  have de9 := (hbK14.cell (c_lt dc9)).trans dc9
  have de10 := (hbK14.cell (c_lt dc10)).trans dc10
  have de11 := (hbK14.cell (c_lt dc11)).trans dc11
  have de12 := (hbK14.cell (c_lt dc12)).trans dc12
  have de13 := (hbK14.cell (c_lt dc13)).trans dc13
  have de14 := (hbK14.cell (c_lt dc14)).trans dc14
  have de15 := (hbK14.cell (c_lt dc15)).trans dc15
  have de16 := (hbK14.cell (c_lt dc16)).trans dc16
  clear hbK14
  refine ⟨_, rfl, ?_⟩
  refine hK.out _ _ ⟨de0, de1, de2, de3, de4, de5, de6, de7, de8, de9, de10, de11, de12, de13, de14, de15, de16⟩ (fun hHeld => ?_)
  clear hK K
  refine norm_ (a' := ?_) ?_ ?_
  rotate_left
  ·show Act.put _ (some 63) _ = _
   simp only [Act.put, sAa, sBb, sCc, i64_w, i32_w]
   rfl
  refine pu 23 64 ?_
  refine pu 24 65 ?_
  refine pu 25 66 ?_
  refine pu 26 4 ?_
  refine done_ (by kernel_rfl) ?_
  try go_wp2_with fail
  go_ret
  exact ⟨rfl, below_step HB.out K14.out⟩
end Go.Proofs.YtbefbhghmommhaaGreatDoor.MWo
set_option maxRecDepth 100000
set_option linter.unusedVariables false
namespace Go.Proofs.YtbefbhghmommhaaGreatDoor.Opn
open Go.Joins Go.Deep Go.ChangeShapes Go.WideShapes Go.RowKit Go.Proofs.YtbefbhghmommhaaGreatDoorW.PrintWords Go.Proofs.YtbefbhghmommhaaGreatDoor.MWo
def Opens (P : Program) (t : TypeId) {α : Type} (d : Kd α) (good : α → Prop) : Prop :=
  ∀ {H : Type} (enc : TypeId × Value → H) (W : World) (fuel : Nat) (cs : List Value) (x : DataW H × List MemPlace),
    DataW.trod enc P W 0 (fun _ => true) true fuel t cs = some x → ∃ a, d.K W a cs ∧ good a
theorem opens_int {P : Program} {t : TypeId} {k : IntKind} (ht : P.underlying t = some (.int k)) : Opens P t (Kd.int k) (fun n => (Lit.int k n).wf = true) := by
  intro H enc W fuel cs x h
  obtain ⟨n, rfl, _, hw⟩ := DataW.trod_int ht h
  exact ⟨n, rfl, hw⟩
theorem listOf {α : Type} {Q : Nat → α → Prop} : ∀ n : Nat, (∀ i, i < n → ∃ y, Q i y) → ∃ l : List α, l.length = n ∧ ∀ i y, l[i]? = some y → Q i y
  | 0, _ => ⟨[], rfl, fun i y h => by simp at h⟩
  | n + 1, h => by
    obtain ⟨l, hl, hq⟩ := listOf n (fun i hi => h i (by omega))
    obtain ⟨y, hy⟩ := h n (by omega)
    refine ⟨l ++ [y], by simp [hl], fun i z hz => ?_⟩
    by_cases hi : i < n
    · rw [List.getElem?_append_left (by omega)] at hz
      exact hq i z hz
    · rw [List.getElem?_append_right (by omega)] at hz
      have hin : i = n := by
        have := (List.getElem?_eq_some_iff.1 hz).1
        simp at this; omega
      subst hin
      simp [hl] at hz
      subst hz
      exact hy
theorem opens_slice {P : Program} {t e : TypeId} {α : Type} {d : Kd α} {good : α → Prop} (ht : P.underlying t = some (.slice e)) (hc : P.cellsOf e = d.sz) (h0 : Opens P e d good) :
    Opens P t (Kd.slice e d) (fun l => (∀ x ∈ l, good x) ∧ l.length ≤ 9223372036854775807) := by
  intro H enc W fuel cs x h
  rcases Deep.open_slice ht h with ⟨rfl, _⟩ | ⟨a, len, cap, m, n, D, Pl, rfl, _, hl, hm, hm', _, hel⟩
  · exact ⟨[], ⟨none, 0, rfl, Nat.le_refl _, rfl, by simp, fun hp => absurd hp (by simp)⟩, by simp, by simp⟩
  · have hlm : len ≤ m := by rw [hm']; simpa using hl
    have hmax : len ≤ 9223372036854775807 := by unfold maxLen at hm; omega
    obtain ⟨l, hlen, hq⟩ := listOf (Q := fun i y => (∃ c : List Value, c.length = d.sz ∧ d.K W y c ∧ ∀ j u, c[j]? = some u → W.cell? (a.add (i * d.sz + j)) = some u) ∧ good y) len (fun i hi => by
      obtain ⟨cs', h1, h2⟩ := hel i (by omega)
      obtain ⟨y, hy, hg⟩ := h0 enc W n cs' _ h2
      obtain ⟨_, h3, h4⟩ := World.cells?_some h1
      refine ⟨y, ⟨cs', by rw [h3, hc], hy, fun j u hu => ?_⟩, hg⟩
      have hj := (List.getElem?_eq_some_iff.1 hu).1
      have := h4 j (by omega)
      rw [hu, hc] at this
      rw [← this, Deep.add_add])
    subst hlen
    exact ⟨l, ⟨some a, cap, rfl, hl, rfl, hmax, fun _ => ⟨a, rfl, fun j p hj => (hq j p hj).1⟩⟩, fun y hy => by
      obtain ⟨i, hi⟩ := List.mem_iff_getElem?.1 hy
      exact (hq i y hi).2, hmax⟩
end Go.Proofs.YtbefbhghmommhaaGreatDoor.Opn
set_option maxRecDepth 100000
set_option linter.unusedVariables false
namespace Go.Proofs.YtbefbhghmommhaaGreatDoor.Opn
open Go.Joins Go.Deep Go.ChangeShapes Go.WideShapes Go.RowKit Go.Proofs.YtbefbhghmommhaaGreatDoorW.PrintWords Go.Proofs.YtbefbhghmommhaaGreatDoor.MWo
theorem eight {H : Type} {enc : TypeId × Value → H} {P : Program} {W : World} {t : TypeId} {f0 f1 f2 f3 f4 f5 f6 f7 : Field} {fuel : Nat} {cs : List Value} {x : DataW H × List MemPlace} (ht : P.underlying t = some (.struct #[f0, f1, f2, f3, f4, f5, f6, f7])) (hC : P.cellsOf t = 8)
    (o : f0.offset = 0 ∧ f1.offset = 1 ∧ f2.offset = 2 ∧ f3.offset = 3 ∧ f4.offset = 4 ∧ f5.offset = 5 ∧ f6.offset = 6 ∧ f7.offset = 7) (c1 : P.cellsOf f0.type = 1 ∧ P.cellsOf f1.type = 1 ∧ P.cellsOf f2.type = 1 ∧ P.cellsOf f3.type = 1 ∧ P.cellsOf f4.type = 1 ∧ P.cellsOf f5.type = 1 ∧ P.cellsOf f6.type = 1 ∧ P.cellsOf f7.type = 1) (h : DataW.trod enc P W 0 (fun _ => true) true fuel t cs = some x) :
    ∃ v0 v1 v2 v3 v4 v5 v6 v7 y0 y1 y2 y3 y4 y5 y6 y7 n, cs = [v0, v1, v2, v3, v4, v5, v6, v7] ∧ DataW.trod enc P W 0 (fun _ => true) true n f0.type [v0] = some y0 ∧ DataW.trod enc P W 0 (fun _ => true) true n f1.type [v1] = some y1 ∧ DataW.trod enc P W 0 (fun _ => true) true n f2.type [v2] = some y2 ∧ DataW.trod enc P W 0 (fun _ => true) true n f3.type [v3] = some y3 ∧ DataW.trod enc P W 0 (fun _ => true) true n f4.type [v4] = some y4 ∧ DataW.trod enc P W 0 (fun _ => true) true n f5.type [v5] = some y5 ∧ DataW.trod enc P W 0 (fun _ => true) true n f6.type [v6] = some y6 ∧ DataW.trod enc P W 0 (fun _ => true) true n f7.type [v7] = some y7 := by
  obtain ⟨xs, n, _, rfl, hl, hlen, hf⟩ := DataW.trod_struct ht h
  rw [hC] at hl
  obtain ⟨o0, o1, o2, o3, o4, o5, o6, o7⟩ := o
  obtain ⟨k0, k1, k2, k3, k4, k5, k6, k7⟩ := c1
  match xs, hlen, cs, hl with
  | [y0, y1, y2, y3, y4, y5, y6, y7], _, [v0, v1, v2, v3, v4, v5, v6, v7], _ =>
    have g0 := hf 0 f0 rfl
    rw [o0, k0] at g0
    have g1 := hf 1 f1 rfl
    rw [o1, k1] at g1
    have g2 := hf 2 f2 rfl
    rw [o2, k2] at g2
    have g3 := hf 3 f3 rfl
    rw [o3, k3] at g3
    have g4 := hf 4 f4 rfl
    rw [o4, k4] at g4
    have g5 := hf 5 f5 rfl
    rw [o5, k5] at g5
    have g6 := hf 6 f6 rfl
    rw [o6, k6] at g6
    have g7 := hf 7 f7 rfl
    rw [o7, k7] at g7
    exact ⟨v0, v1, v2, v3, v4, v5, v6, v7, y0, y1, y2, y3, y4, y5, y6, y7, n, rfl, by simpa using g0, by simpa using g1, by simpa using g2, by simpa using g3, by simpa using g4, by simpa using g5, by simpa using g6, by simpa using g7⟩
theorem three {H : Type} {enc : TypeId × Value → H} {P : Program} {W : World} {t : TypeId} {f0 f1 f2 : Field} {fuel : Nat} {cs : List Value} {x : DataW H × List MemPlace} (ht : P.underlying t = some (.struct #[f0, f1, f2])) (hC : P.cellsOf t = 3)
    (o : f0.offset = 0 ∧ f1.offset = 1 ∧ f2.offset = 2) (c1 : P.cellsOf f0.type = 1 ∧ P.cellsOf f1.type = 1 ∧ P.cellsOf f2.type = 1) (h : DataW.trod enc P W 0 (fun _ => true) true fuel t cs = some x) :
    ∃ v0 v1 v2 y0 y1 y2 n, cs = [v0, v1, v2] ∧ DataW.trod enc P W 0 (fun _ => true) true n f0.type [v0] = some y0 ∧ DataW.trod enc P W 0 (fun _ => true) true n f1.type [v1] = some y1 ∧ DataW.trod enc P W 0 (fun _ => true) true n f2.type [v2] = some y2 := by
  obtain ⟨xs, n, _, rfl, hl, hlen, hf⟩ := DataW.trod_struct ht h
  rw [hC] at hl
  obtain ⟨o0, o1, o2⟩ := o
  obtain ⟨k0, k1, k2⟩ := c1
  match xs, hlen, cs, hl with
  | [y0, y1, y2], _, [v0, v1, v2], _ =>
    have g0 := hf 0 f0 rfl
    rw [o0, k0] at g0
    have g1 := hf 1 f1 rfl
    rw [o1, k1] at g1
    have g2 := hf 2 f2 rfl
    rw [o2, k2] at g2
    exact ⟨v0, v1, v2, y0, y1, y2, n, rfl, by simpa using g0, by simpa using g1, by simpa using g2⟩
def wfi (n : Int) : Prop := (Lit.int .i64 n).wf = true
def goodN (x : S55) : Prop := wfi x.f0 ∧ wfi x.f1 ∧ wfi x.f2 ∧ wfi x.f3 ∧ wfi x.f4 ∧ (∀ z ∈ x.f5, wfi z) ∧ wfi x.f6 ∧ wfi x.f7
def goodGd (x : S35) : Prop := wfi x.f1 ∧ ∀ z ∈ x.f2, wfi z
def goodC (x : S37) : Prop := (∀ z ∈ x.f0, goodN z) ∧ goodGd x.f1
theorem opensI : Opens Tryz.prog 33 (Kd.slice 3 (Kd.int .i64)) (fun l => (∀ x ∈ l, (Lit.int .i64 x).wf = true) ∧ l.length ≤ 9223372036854775807) := opens_slice Tryz.underlying33 (by kernel_rfl) (opens_int Tryz.underlying3)
theorem opens_node : Opens Tryz.prog 55 k55 goodN := by
  intro H enc W fuel cs x h
  obtain ⟨v0, v1, v2, v3, v4, v5, v6, v7, y0, y1, y2, y3, y4, y5, y6, y7, n, rfl, h0, h1, h2, h3, h4, h5, h6, h7⟩ := eight Tryz.underlying55 (by kernel_rfl) ⟨rfl, rfl, rfl, rfl, rfl, rfl, rfl, rfl⟩ ⟨by kernel_rfl, by kernel_rfl, by kernel_rfl, by kernel_rfl, by kernel_rfl, by kernel_rfl, by kernel_rfl, by kernel_rfl⟩ h
  obtain ⟨a0, e0, _, w0⟩ := DataW.trod_int Tryz.underlying3 h0
  obtain ⟨a1, e1, _, w1⟩ := DataW.trod_int Tryz.underlying3 h1
  obtain ⟨a2, e2, _, w2⟩ := DataW.trod_int Tryz.underlying3 h2
  obtain ⟨a3, e3, _, w3⟩ := DataW.trod_int Tryz.underlying2 h3
  obtain ⟨a4, e4, _, w4⟩ := DataW.trod_int Tryz.underlying2 h4
  obtain ⟨l, ⟨A, cc, e5, hle, hC⟩, hg⟩ := opensI enc W n _ _ h5
  obtain ⟨a6, e6, _, w6⟩ := DataW.trod_int Tryz.underlying3 h6
  obtain ⟨a7, e7, _, w7⟩ := DataW.trod_int Tryz.underlying3 h7
  simp only [List.cons.injEq, and_true] at e0 e1 e2 e3 e4 e5 e6 e7
  subst e0 e1 e2 e3 e4 e5 e6 e7
  exact ⟨⟨a0, a1, a2, a3, a4, l, a6, a7⟩, k55_mk W ⟨a0, a1, a2, a3, a4, l, a6, a7⟩ hle hC, w0, w1, w2, w3, w4, hg.1, w6, w7⟩
theorem opens_guard : Opens Tryz.prog 35 k35 goodGd := by
  intro H enc W fuel cs x h
  obtain ⟨v0, v1, v2, y0, y1, y2, n, rfl, h0, h1, h2⟩ := three Tryz.underlying35 (by kernel_rfl) ⟨rfl, rfl, rfl⟩ ⟨by kernel_rfl, by kernel_rfl, by kernel_rfl⟩ h
  obtain ⟨a0, e0, _⟩ := DataW.trod_bool Tryz.underlying4 h0
  obtain ⟨a1, e1, _, w1⟩ := DataW.trod_int Tryz.underlying2 h1
  obtain ⟨l, ⟨A, cc, e2, hle, hC⟩, hg⟩ := opensI enc W n _ _ h2
  simp only [List.cons.injEq, and_true] at e0 e1 e2
  subst e0 e1 e2
  exact ⟨⟨a0, a1, l⟩, k35_mk W ⟨a0, a1, l⟩ hle hC, w1, hg.1⟩
theorem opensN : Opens Tryz.prog 32 (Kd.slice 55 k55) (fun l => (∀ x ∈ l, goodN x) ∧ l.length ≤ 9223372036854775807) := opens_slice Tryz.underlying32 (by kernel_rfl) opens_node
theorem opens_cell : Opens Tryz.prog 37 k37 goodC := by
  intro H enc W fuel cs x h
  obtain ⟨xs, n, _, rfl, hl, hlen, hf⟩ := DataW.trod_struct Tryz.underlying37 h
  rw [show Tryz.prog.cellsOf 37 = 4 by kernel_rfl] at hl
  match xs, hlen, cs, hl with
  | [y0, y1], _, [v0, v1, v2, v3], _ =>
    have g0 : DataW.trod enc Tryz.prog W 0 (fun _ => true) true n 32 (([v0, v1, v2, v3].drop 0).take (Tryz.prog.cellsOf 32)) = some y0 := hf 0 _ rfl
    have g1 : DataW.trod enc Tryz.prog W 0 (fun _ => true) true n 35 (([v0, v1, v2, v3].drop 1).take (Tryz.prog.cellsOf 35)) = some y1 := hf 1 _ rfl
    rw [show Tryz.prog.cellsOf 32 = 1 by kernel_rfl] at g0
    rw [show Tryz.prog.cellsOf 35 = 3 by kernel_rfl] at g1
    obtain ⟨l, ⟨A, cc, e0, hle, hC⟩, hg⟩ := opensN enc W n _ _ (show DataW.trod enc Tryz.prog W 0 (fun _ => true) true n 32 [v0] = some y0 by simpa using g0)
    obtain ⟨gd, hK, hgd⟩ := opens_guard enc W n _ _ (show DataW.trod enc Tryz.prog W 0 (fun _ => true) true n 35 [v1, v2, v3] = some y1 by simpa using g1)
    obtain ⟨A3, c3, e3, hle3, hC3⟩ := k35_open hK
    simp only [List.cons.injEq, and_true] at e0 e3
    obtain ⟨rfl, rfl, rfl⟩ := e3
    subst e0
    exact ⟨⟨l, gd⟩, k37_mk W ⟨l, gd⟩ hle hC hle3 hC3, hg.1, hgd⟩
end Go.Proofs.YtbefbhghmommhaaGreatDoor.Opn
