/- Texts of this claim, laid together by a program (wip/g/merge5.py): HPc, HPk2, HGv, MWox28, MWox29, MWox30, MWox33, Ho, HOt, MWox31, MWox32. -/
import Derived.Test.YtbefbhghmommhaaDoorZHz11
import Derived.Test.YtbefbhghmommhaaDoorZHz12
import Derived.Test.YtbefbhghmommhaaDoorZHz4
import Derived.Test.YtbefbhghmommhaaDoorZHz7
import Derived.Test.YtbefbhghmommhaaDoorZHz9
import Derived.Deep.QuietTactic
set_option linter.unusedVariables false
set_option linter.unusedSimpArgs false
namespace Go.Proofs.YtbefbhghmommhaaDoor.MWo
open Go.RowKit Go.Proofs.YtbefbhghmommhaaDoorW.PrintWords Go.Proofs.YtbefbhghmommhaaDoorW.PrintLast Go.Proofs.YtbefbhghmommhaaDoorW.PrintMore
def netsOk (P : List S43) (L : List S39) : Prop := partsOk P ∧ linksOk P L ∧ ∀ x, x ∈ Hops.far (ends L) P.length 0 → 0 ≤ x
theorem links_in {P : List S43} {L : List S39} (h : linksOk P L) : InR P.length L := by
 intro i h0 h1
 have := h.2 i h0 h1
 unfold linkC at this
 simp only [Bool.and_eq_true, decide_eq_true_eq] at this
 exact ⟨this.1, this.2.1⟩
theorem partB_iff {p : S43} : partB p = true ↔ PartOk p := by
 unfold partB PartOk
 simp only [Bool.and_eq_true, decide_eq_true_eq]
def netsB (P : List S43) (L : List S39) : Bool :=
 decide (1 ≤ P.length) && (decide (P.length ≤ 6) && ((List.range P.length).all (fun i => partB (rd_T43 P i)) && (decide (L.length ≤ 10) && ((List.range L.length).all (fun i => linkC P (L.take i) (rd_T39 L i)) && (Hops.far (ends L) P.length 0).all fun x => decide (0 ≤ x)))))
theorem netsB_iff (P : List S43) (L : List S39) : netsB P L = true ↔ netsOk P L := by
 unfold netsB netsOk partsOk linksOk
 simp only [Bool.and_eq_true, decide_eq_true_eq, List.all_eq_true, List.mem_range]
 constructor
 ·rintro ⟨h1, h2, h3, h4, h5, h6⟩
  refine ⟨⟨h1, h2, fun i h0 hi => ?_⟩, ⟨h4, fun i h0 hi => ?_⟩, h6⟩
  ·have := h3 i.toNat (by omega)
   rw [Int.toNat_of_nonneg h0] at this
   exact partB_iff.1 this
  ·have := h5 i.toNat (by omega)
   rw [Int.toNat_of_nonneg h0] at this
   exact this
 ·rintro ⟨⟨h1, h2, h3⟩, ⟨h4, h5⟩, h6⟩
  refine ⟨h1, h2, fun i hi => partB_iff.2 (h3 i (by omega) (by omega)), h4, fun i hi => ?_, h6⟩
  have := h5 (i : Int) (by omega) (by omega)
  simpa using this
set_option maxHeartbeats 4000000 in
set_option maxRecDepth 4000 in
theorem check_any (A0 : Option Addr) (c0 : Nat) (P : List S43) (A1 : Option Addr) (c1 : Nat) (L : List S39) (a2 a3 a4 a5 a6 a7 a8 a9 a10 a11 a12 : Int) (w : World) (hr0 : Kd.C k43 w A0 P.length P) (hc0 : P.length ≤ c0) (hr1 : Kd.C k39 w A1 L.length L) (hc1 : L.length ≤ c1) (hP : P.length ≤ 1000) (hL : L.length ≤ 1000) :
  Calls Tryd.prog 32 #[.agg #[.slice A0 P.length c0, .slice A1 L.length c1, .int .i64 a2, .int .i64 a3, .int .i64 a4, .int .i64 a5, .int .i64 a6, .int .i64 a7, .int .i64 a8, .int .i64 a9, .int .i64 a10, .int .i64 a11, .int .i64 a12]] w fun ev w' => ∃ v e ea, ev = .returned v ∧ Er w' w.heap.size v e ea ∧ (e = 0 ↔ netsOk P L) ∧ Below w.heap.size w w' := by
 have HR0 := am hr0
 have HR1 := am hr1
 have HC0 := am hc0
 have HC1 := am hc1
 have HL := am (And.intro hP hL)
 clear hr0 hr1 hc0 hc1 hP hL
 go_enter Tryd.func32, Tryd.ntmps32
 go_upto_region 1 with fail
 have HO1 : Aside0 ((w.alloc (.cells #[.slice A0 P.length c0, .slice A1 L.length c1, .int .i64 a2, .int .i64 a3, .int .i64 a4, .int .i64 a5, .int .i64 a6, .int .i64 a7, .int .i64 a8, .int .i64 a9, .int .i64 a10, .int .i64 a11, .int .i64 a12] 25)).heap[w.heap.size]? = some (.cells #[.slice A0 P.length c0, .slice A1 L.length c1, .int .i64 a2, .int .i64 a3, .int .i64 a4, .int .i64 a5, .int .i64 a6, .int .i64 a7, .int .i64 a8, .int .i64 a9, .int .i64 a10, .int .i64 a11, .int .i64 a12] 25)) := ⟨heap_alloc_new _ _⟩
 have HB1 := am (below_alloc (Below.refl w.heap.size w) (Obj.cells #[.slice A0 P.length c0, .slice A1 L.length c1, .int .i64 a2, .int .i64 a3, .int .i64 a4, .int .i64 a5, .int .i64 a6, .int .i64 a7, .int .i64 a8, .int .i64 a9, .int .i64 a10, .int .i64 a11, .int .i64 a12] 25))
 generalize w.alloc (Obj.cells #[.slice A0 P.length c0, .slice A1 L.length c1, .int .i64 a2, .int .i64 a3, .int .i64 a4, .int .i64 a5, .int .i64 a6, .int .i64 a7, .int .i64 a8, .int .i64 a9, .int .i64 a10, .int .i64 a11, .int .i64 a12] 25) = w1 at *
 obtain ⟨bx, hbx⟩ : ∃ bx, bx = w.heap.size := ⟨_, rfl⟩
 have HBX := am hbx
 have HZ : Aside0 (w.heap.size ≤ w.heap.size) := ⟨Nat.le_refl _⟩
 obtain ⟨base, hbase⟩ : ∃ base, base = w.heap.size := ⟨_, rfl⟩
 rw [← hbx]
 rw [← hbx] at HO1
 clear hbx hbase HZ base
 obtain ⟨x0, x1, x2, x3, x4, x5, x6, x7, x8, x9, x10, x11, x12⟩ := cellsK13 HO1.out
 go_wp2_with fail
 refine (parts_any A0 c0 P A1 c1 L a2 a3 a4 a5 a6 a7 a8 a9 a10 a11 a12 _ (Kd.C_below HR0.out HB1.out) HC0.out (Kd.C_below HR1.out HB1.out) HC1.out HL.out.1).mono ?_
 rintro ev w2 ⟨v, e, ea, rfl, hE, he, hb⟩
 have HE := am (hE.less (below_size HB1.out))
 have HI := am he
 clear hE he
 clear x0 x1 x2 x3 x4 x5 x6 x7 x8 x9 x10 x11 x12
 have HB2 := am (below_step HB1.out hb)
 have HO2 := am ((hb.block bx (blk_lt HO1.out)).trans HO1.out)
 clear hb
 rcases HE.out with ⟨he0, hv⟩ | hE
 rotate_left
 ·have HNE := am hE.1
  obtain ⟨q, hq, hv, hh⟩ := hE.2
  have HV := am hh
  have HN2 : Aside0 (¬ netsOk P L) := ⟨fun h => hE.1 (HI.out.2 h.1)⟩
  have HE9 := HE
  clear HE
  subst hv
  obtain ⟨x0, x1, x2, x3, x4, x5, x6, x7, x8, x9, x10, x11, x12⟩ := cellsK13 HO2.out
  go_wp2_with fail
  go_ret
  exact ⟨_, _, _, rfl, HE9.out, ⟨fun h => absurd h HNE.out, fun h => absurd h HN2.out⟩, HB2.out⟩
 subst he0
 subst hv
 have HP := am (HI.out.1 rfl)
 clear HE HI
 obtain ⟨x0, x1, x2, x3, x4, x5, x6, x7, x8, x9, x10, x11, x12⟩ := cellsK13 HO2.out
 go_wp2_with fail
 refine (links_any A0 c0 P A1 c1 L a2 a3 a4 a5 a6 a7 a8 a9 a10 a11 a12 _ (Kd.C_below HR0.out HB2.out) HC0.out (Kd.C_below HR1.out HB2.out) HC1.out HL.out.2).mono ?_
 rintro ev w3 ⟨v, e, ea, rfl, hE, he, hb⟩
 have HE := am (hE.less (below_size HB2.out))
 have HI := am he
 clear hE he
 clear x0 x1 x2 x3 x4 x5 x6 x7 x8 x9 x10 x11 x12
 have HB3 := am (below_step HB2.out hb)
 have HO3 := am ((hb.block bx (blk_lt HO2.out)).trans HO2.out)
 clear hb
 rcases HE.out with ⟨he0, hv⟩ | hE
 rotate_left
 ·have HNE := am hE.1
  obtain ⟨q, hq, hv, hh⟩ := hE.2
  have HV := am hh
  have HN2 : Aside0 (¬ netsOk P L) := ⟨fun h => hE.1 (HI.out.2 h.2.1)⟩
  have HE9 := HE
  clear HE
  subst hv
  obtain ⟨x0, x1, x2, x3, x4, x5, x6, x7, x8, x9, x10, x11, x12⟩ := cellsK13 HO3.out
  go_wp2_with fail
  go_ret
  exact ⟨_, _, _, rfl, HE9.out, ⟨fun h => absurd h HNE.out, fun h => absurd h HN2.out⟩, HB3.out⟩
 subst he0
 subst hv
 have HLk := am (HI.out.1 rfl)
 clear HE HI
 obtain ⟨d, hdd⟩ : ∃ d, Hops.far (ends L) P.length 0 = d := ⟨_, rfl⟩
 have hev := dists_ev P L a2 a3 a4 a5 a6 a7 a8 a9 a10 a11 a12 0 HP.out.2.1 (by have := HLk.out.1; omega) (links_in HLk.out) (Int.le_refl _) (by have := HP.out.1; omega)
 rw [show (0 : Int).toNat = 0 from rfl, hdd] at hev
 obtain ⟨k1, hd⟩ := hev.some_
 have hlen : d.length ≤ 1000 := by rw [← hdd, Hops.far_len]; have := HP.out.2.1; omega
 obtain ⟨i, hix, hi1, hi2⟩ := index_ev d hlen (-1)
 obtain ⟨k2, hi⟩ := hix.some_
 have HDD := am hdd
 have HI2 : Aside0 (i < 0 ↔ ∀ x, x ∈ d → 0 ≤ x) := ⟨by
  rw [hi2]
  constructor
  ·intro h x hx
   have h1 := h x hx
   have h2 := Hops.far_low (ends L) P.length 0 x (by rw [hdd]; exact hx)
   omega
  ·intro h x hx
   have := h x hx
   omega⟩
 have HDs := am hd
 have HIx := am hi
 clear hd hi hdd hev hlen hix hi1 hi2
 obtain ⟨x0, x1, x2, x3, x4, x5, x6, x7, x8, x9, x10, x11, x12⟩ := cellsK13 HO3.out
 go_wp2_with fail
 refine (plan_Dists.calls k1 A0 c0 P A1 c1 L a2 a3 a4 a5 a6 a7 a8 a9 a10 a11 a12 0 d _ (Kd.C_below HR0.out HB3.out) HC0.out (Kd.C_below HR1.out HB3.out) HC1.out HDs.out).mono ?_
 rintro e w4 ⟨v4, rfl, ho4, hb⟩
 obtain ⟨A4, c4, rfl⟩ := Kd.R_slice ho4
 have R4 := am ho4
 clear ho4
 clear x0 x1 x2 x3 x4 x5 x6 x7 x8 x9 x10 x11 x12
 have HB4 := am (below_step HB3.out hb)
 have HO4 := am ((hb.block bx (blk_lt HO3.out)).trans HO3.out)
 clear hb
 go_wp2_with fail
 refine (slices_Index_int_int.calls k2 A4 c4 d (-1) i _ (Kd.R_reads' R4.out).2.2 (Kd.R_reads' R4.out).2.1 HIx.out).mono ?_
 rintro e w5 ⟨rfl, hD⟩
 have hb := hD.below
 clear hD
 have HB5 := am (below_step HB4.out hb)
 clear hb
 by_cases hi : 0 ≤ i
 ·have hge : decide (0 ≤ i) = true := dT hi
  have HN2 : Aside0 (¬ netsOk P L) := ⟨fun h => by have h3 := h.2.2; rw [HDD.out] at h3; have := HI2.out.2 h3; omega⟩
  go_wp2_with (first | (go_at_call 41; refine (wrong_walk _ _ _ (by decide)).mono ?_; rintro ev w9 ⟨v9, rfl, hE9, hb9⟩))
  go_ret
  exact ⟨_, _, _, rfl, hE9.less (below_size HB5.out), ⟨fun h => absurd h (by decide), fun h => absurd h HN2.out⟩, below_step HB5.out hb9⟩
 ·have hge : decide (0 ≤ i) = false := dF hi
  have HF : Aside0 (netsOk P L) := ⟨HP.out, HLk.out, by rw [HDD.out]; exact HI2.out.1 (by omega)⟩
  go_wp2_with fail
  go_ret
  exact ⟨.nilIface, (0 : Int), (0 : Int), rfl, Or.inl ⟨rfl, rfl⟩, ⟨fun _ => HF.out, fun _ => rfl⟩, HB5.out⟩
set_option linter.unusedVariables false
set_option linter.unusedSimpArgs false
theorem as_made (q e ea : Int) (qn : Nat) (base : World) (w2 : World) (hg : w2.cell? ⟨0, 0, none⟩ = some (.iface 98 (.agg #[.pointer (some ⟨1, 59, none⟩)]))) (hg0 : 0 < w2.heap.size)
  (hb : Below base.heap.size base w2) (hh : w2.heap[qn]? = some (.cells #[.int .i64 ea, .iface 66 (.int .i64 e)] 68 (0, 0))) :
  Calls Tryd.prog 33 #[.iface 61 (.pointer (some ⟨qn, 0, none⟩)), .iface 63 (.pointer (some ⟨w2.heap.size, 0, none⟩))] (w2.alloc (.cells #[.pointer none] 61)) fun ev w3 => ev = .returned (.bool true) ∧ w3.cell? ⟨w2.heap.size, 0, none⟩ = some (.pointer (some ⟨qn, 0, none⟩)) ∧ w3.heap[qn]? = some (.cells #[.int .i64 ea, .iface 66 (.int .i64 e)] 68 (0, 0)) ∧ Below base.heap.size base w3 := by
 refine (as_hit ⟨qn, 0, none⟩ ⟨w2.heap.size, 0, none⟩ (.pointer none) (w2.alloc (.cells #[.pointer none] 61)) ((World.cell?_alloc_lt _ _ ⟨0, 0, none⟩ hg0).trans hg) ((blk_cell (heap_alloc_new _ _) 0).trans rfl) (blk_frozen (heap_alloc_new _ _) 0)).mono ?_
 rintro ev w3 ⟨rfl, hw⟩
 have hq := blk_lt hh
 refine ⟨rfl, ?_, ?_, ?_⟩
 ·rw [hw]
  exact World.cell?_setCell_same _ _ _ ((blk_cell (blk_alloc (blk_alloc (blk_alloc (blk_alloc (heap_alloc_new w2 (.cells #[.pointer none] 61)) _) _) _) _) 0).trans rfl)
 ·rw [hw]
  exact blk_far (blk_alloc (blk_alloc (blk_alloc (blk_alloc (blk_alloc hh _) _) _) _) _) (show qn ≠ w2.heap.size by omega) _
 ·rw [hw]
  exact below_set (below_alloc (below_alloc (below_alloc (below_alloc (below_alloc hb _) _) _) _) _) (below_size hb)
set_option maxHeartbeats 4000000 in
set_option maxRecDepth 4000 in
theorem Check_any (A0 : Option Addr) (c0 : Nat) (P : List S43) (A1 : Option Addr) (c1 : Nat) (L : List S39) (a2 a3 a4 a5 a6 a7 a8 a9 a10 a11 a12 : Int) (w : World) (hr0 : Kd.C k43 w A0 P.length P) (hc0 : P.length ≤ c0) (hr1 : Kd.C k39 w A1 L.length L) (hc1 : L.length ≤ c1) (hP : P.length ≤ 1000) (hL : L.length ≤ 1000) (hg : w.cell? ⟨0, 0, none⟩ = some (.iface 98 (.agg #[.pointer (some ⟨1, 59, none⟩)]))) :
  Calls Tryd.prog 29 #[.agg #[.slice A0 P.length c0, .slice A1 L.length c1, .int .i64 a2, .int .i64 a3, .int .i64 a4, .int .i64 a5, .int .i64 a6, .int .i64 a7, .int .i64 a8, .int .i64 a9, .int .i64 a10, .int .i64 a11, .int .i64 a12]] w fun ev w' => ∃ r m, ev = .returned (.tuple #[.int .i64 r, .int .i64 m]) ∧ (r = 0 ↔ netsOk P L) ∧ Below w.heap.size w w' := by
 have hc := fun (W : World) (hB : Below w.heap.size w W) => check_any A0 c0 P A1 c1 L a2 a3 a4 a5 a6 a7 a8 a9 a10 a11 a12 W (Kd.C_below hr0 hB) hc0 (Kd.C_below hr1 hB) hc1 hP hL
 have HC := am hc
 have HG := am hg
 clear hc hr0 hr1 hc0 hc1 hP hL hg
 go_enter Tryd.func29, Tryd.ntmps29
 have HB1 := am (below_alloc (Below.refl w.heap.size w) (Obj.cells #[.slice A0 P.length c0, .slice A1 L.length c1, .int .i64 a2, .int .i64 a3, .int .i64 a4, .int .i64 a5, .int .i64 a6, .int .i64 a7, .int .i64 a8, .int .i64 a9, .int .i64 a10, .int .i64 a11, .int .i64 a12] 25))
 go_wp2_with fail
 refine (HC.out _ HB1.out).mono ?_
 rintro ev w2 ⟨v, e, ea, rfl, hE, he, hb⟩
 have HB2 := am (below_step HB1.out hb)
 have HI := am he
 have HE := am hE
 clear hb he hE
 rcases HE.out with ⟨he0, hv⟩ | ⟨he0, q, hq, hv, hh⟩
 ·subst he0
  subst hv
  have HF := am (HI.out.1 rfl)
  go_wp2_with fail
  refine (as_nil _ _).mono ?_
  rintro e w3 ⟨rfl, rfl⟩
  go_wp2_with fail
  go_ret2
  exact ⟨0, 0, rfl, ⟨fun _ => HF.out, fun _ => rfl⟩, by repeat (first | exact HB2.out | apply below_alloc)⟩
 ·subst hv
  have HN := am (show ¬ netsOk P L from fun h => he0 (HI.out.2 h))
  have HH := am hh
  have hg2 := (HB2.out.cell (World.block_lt_of_cell? w _ HG.out)).trans HG.out
  have HA := am (as_made 0 e ea q w w2 hg2 (World.block_lt_of_cell? w2 _ hg2) HB2.out hh)
  clear HE HI he0 hq hh hg2
  go_wp2_with fail
  refine HA.out.mono ?_
  rintro ev w3 ⟨rfl, hf, hq3, hb3⟩
  have HB3 := am hb3
  have HQ3 := am hq3
  clear hb3 hq3 HA
  go_wp2_with fail
  have HQ4 := am (blk_alloc HQ3.out (.cells #[.int .i64 7, .int .i64 8, .int .i64 9, .int .i64 10, .int .i64 11, .int .i64 12] 51 (0, 0)))
  have HB4 := am (below_alloc HB3.out (.cells #[.int .i64 7, .int .i64 8, .int .i64 9, .int .i64 10, .int .i64 11, .int .i64 12] 51 (0, 0)))
  have hf4 := (World.cell?_alloc_lt w3 (.cells #[.int .i64 7, .int .i64 8, .int .i64 9, .int .i64 10, .int .i64 11, .int .i64 12] 51 (0, 0)) ⟨w2.heap.size, 0, none⟩ (World.block_lt_of_cell? _ _ hf)).trans hf
  have hn4 := heap_alloc_new w3 (.cells #[.int .i64 7, .int .i64 8, .int .i64 9, .int .i64 10, .int .i64 11, .int .i64 12] 51 (0, 0))
  have hz0 : (w3.alloc (.cells #[.int .i64 7, .int .i64 8, .int .i64 9, .int .i64 10, .int .i64 11, .int .i64 12] 51 (0, 0))).cell? ⟨w3.heap.size, 0, none⟩ = some (.int .i64 7) := (blk_cell hn4 0).trans rfl
  have hz1 : (w3.alloc (.cells #[.int .i64 7, .int .i64 8, .int .i64 9, .int .i64 10, .int .i64 11, .int .i64 12] 51 (0, 0))).cell? ⟨w3.heap.size, 1, none⟩ = some (.int .i64 8) := (blk_cell hn4 1).trans rfl
  have hz2 : (w3.alloc (.cells #[.int .i64 7, .int .i64 8, .int .i64 9, .int .i64 10, .int .i64 11, .int .i64 12] 51 (0, 0))).cell? ⟨w3.heap.size, 2, none⟩ = some (.int .i64 9) := (blk_cell hn4 2).trans rfl
  have hz3 : (w3.alloc (.cells #[.int .i64 7, .int .i64 8, .int .i64 9, .int .i64 10, .int .i64 11, .int .i64 12] 51 (0, 0))).cell? ⟨w3.heap.size, 3, none⟩ = some (.int .i64 10) := (blk_cell hn4 3).trans rfl
  have hz4 : (w3.alloc (.cells #[.int .i64 7, .int .i64 8, .int .i64 9, .int .i64 10, .int .i64 11, .int .i64 12] 51 (0, 0))).cell? ⟨w3.heap.size, 4, none⟩ = some (.int .i64 11) := (blk_cell hn4 4).trans rfl
  have hz5 : (w3.alloc (.cells #[.int .i64 7, .int .i64 8, .int .i64 9, .int .i64 10, .int .i64 11, .int .i64 12] 51 (0, 0))).cell? ⟨w3.heap.size, 5, none⟩ = some (.int .i64 12) := (blk_cell hn4 5).trans rfl
  have hq0 : (w3.alloc (.cells #[.int .i64 7, .int .i64 8, .int .i64 9, .int .i64 10, .int .i64 11, .int .i64 12] 51 (0, 0))).cell? ⟨q, 0, none⟩ = some (.int .i64 ea) := (blk_cell HQ4.out 0).trans rfl
  clear hf hn4
  generalize w3.alloc (Obj.cells #[.int .i64 7, .int .i64 8, .int .i64 9, .int .i64 10, .int .i64 11, .int .i64 12] 51) = w4 at *
  generalize w3.heap.size = bl at *
  refine wp_loop_rounds 7 ?_
  rw [rounds_succ]
  go_wp2_with (first | (go_at_call 34; refine (eis_walk q e ea _ _ HQ4.out).mono ?_; rintro ev w5 ⟨rfl, rfl⟩))
  ·refine start_ (n := 7) (S := fun w' => w'.cell? ⟨w2.heap.size, 0, none⟩ = some (.pointer (some ⟨q, 0, none⟩)) ∧ w'.cell? ⟨q, 0, none⟩ = some (.int .i64 ea)) (ds := []) #[false, false, false, false, false, false, false] (by kernel_rfl) rfl rfl ⟨hf4, hq0⟩ (fun hHeld => ?_)
   refine pu 0 24 ?_
   refine tk2 1 25 ?_
   refine pu 2 26 ?_
   refine pu 3 27 ?_
   refine tk2 4 28 ?_
   refine pu 5 2 ?_
   refine pu 6 3 ?_
   refine done_ (by kernel_rfl) ?_
   go_wp2_with fail
   go_ret2
   exact ⟨_, _, rfl, ⟨fun h => absurd h (by decide), fun h => absurd h HN.out⟩, by repeat (first | exact HB4.out | apply below_drew1 | apply below_alloc)⟩
  rw [rounds_succ]
  go_wp2_with (first | (go_at_call 34; refine (eis_walk q e ea _ _ HQ4.out).mono ?_; rintro ev w5 ⟨rfl, rfl⟩))
  ·refine start_ (n := 7) (S := fun w' => w'.cell? ⟨w2.heap.size, 0, none⟩ = some (.pointer (some ⟨q, 0, none⟩)) ∧ w'.cell? ⟨q, 0, none⟩ = some (.int .i64 ea)) (ds := []) #[false, false, false, false, false, false, false] (by kernel_rfl) rfl rfl ⟨hf4, hq0⟩ (fun hHeld => ?_)
   refine pu 0 24 ?_
   refine tk2 1 25 ?_
   refine pu 2 26 ?_
   refine pu 3 27 ?_
   refine tk2 4 28 ?_
   refine pu 5 2 ?_
   refine pu 6 3 ?_
   refine done_ (by kernel_rfl) ?_
   go_wp2_with fail
   go_ret2
   exact ⟨_, _, rfl, ⟨fun h => absurd h (by decide), fun h => absurd h HN.out⟩, by repeat (first | exact HB4.out | apply below_drew1 | apply below_alloc)⟩
  rw [rounds_succ]
  go_wp2_with (first | (go_at_call 34; refine (eis_walk q e ea _ _ HQ4.out).mono ?_; rintro ev w5 ⟨rfl, rfl⟩))
  ·refine start_ (n := 7) (S := fun w' => w'.cell? ⟨w2.heap.size, 0, none⟩ = some (.pointer (some ⟨q, 0, none⟩)) ∧ w'.cell? ⟨q, 0, none⟩ = some (.int .i64 ea)) (ds := []) #[false, false, false, false, false, false, false] (by kernel_rfl) rfl rfl ⟨hf4, hq0⟩ (fun hHeld => ?_)
   refine pu 0 24 ?_
   refine tk2 1 25 ?_
   refine pu 2 26 ?_
   refine pu 3 27 ?_
   refine tk2 4 28 ?_
   refine pu 5 2 ?_
   refine pu 6 3 ?_
   refine done_ (by kernel_rfl) ?_
   go_wp2_with fail
   go_ret2
   exact ⟨_, _, rfl, ⟨fun h => absurd h (by decide), fun h => absurd h HN.out⟩, by repeat (first | exact HB4.out | apply below_drew1 | apply below_alloc)⟩
  rw [rounds_succ]
  go_wp2_with (first | (go_at_call 34; refine (eis_walk q e ea _ _ HQ4.out).mono ?_; rintro ev w5 ⟨rfl, rfl⟩))
  ·refine start_ (n := 7) (S := fun w' => w'.cell? ⟨w2.heap.size, 0, none⟩ = some (.pointer (some ⟨q, 0, none⟩)) ∧ w'.cell? ⟨q, 0, none⟩ = some (.int .i64 ea)) (ds := []) #[false, false, false, false, false, false, false] (by kernel_rfl) rfl rfl ⟨hf4, hq0⟩ (fun hHeld => ?_)
   refine pu 0 24 ?_
   refine tk2 1 25 ?_
   refine pu 2 26 ?_
   refine pu 3 27 ?_
   refine tk2 4 28 ?_
   refine pu 5 2 ?_
   refine pu 6 3 ?_
   refine done_ (by kernel_rfl) ?_
   go_wp2_with fail
   go_ret2
   exact ⟨_, _, rfl, ⟨fun h => absurd h (by decide), fun h => absurd h HN.out⟩, by repeat (first | exact HB4.out | apply below_drew1 | apply below_alloc)⟩
  rw [rounds_succ]
  go_wp2_with (first | (go_at_call 34; refine (eis_walk q e ea _ _ HQ4.out).mono ?_; rintro ev w5 ⟨rfl, rfl⟩))
  ·refine start_ (n := 7) (S := fun w' => w'.cell? ⟨w2.heap.size, 0, none⟩ = some (.pointer (some ⟨q, 0, none⟩)) ∧ w'.cell? ⟨q, 0, none⟩ = some (.int .i64 ea)) (ds := []) #[false, false, false, false, false, false, false] (by kernel_rfl) rfl rfl ⟨hf4, hq0⟩ (fun hHeld => ?_)
   refine pu 0 24 ?_
   refine tk2 1 25 ?_
   refine pu 2 26 ?_
   refine pu 3 27 ?_
   refine tk2 4 28 ?_
   refine pu 5 2 ?_
   refine pu 6 3 ?_
   refine done_ (by kernel_rfl) ?_
   go_wp2_with fail
   go_ret2
   exact ⟨_, _, rfl, ⟨fun h => absurd h (by decide), fun h => absurd h HN.out⟩, by repeat (first | exact HB4.out | apply below_drew1 | apply below_alloc)⟩
  rw [rounds_succ]
  go_wp2_with (first | (go_at_call 34; refine (eis_walk q e ea _ _ HQ4.out).mono ?_; rintro ev w5 ⟨rfl, rfl⟩))
  ·refine start_ (n := 7) (S := fun w' => w'.cell? ⟨w2.heap.size, 0, none⟩ = some (.pointer (some ⟨q, 0, none⟩)) ∧ w'.cell? ⟨q, 0, none⟩ = some (.int .i64 ea)) (ds := []) #[false, false, false, false, false, false, false] (by kernel_rfl) rfl rfl ⟨hf4, hq0⟩ (fun hHeld => ?_)
   refine pu 0 24 ?_
   refine tk2 1 25 ?_
   refine pu 2 26 ?_
   refine pu 3 27 ?_
   refine tk2 4 28 ?_
   refine pu 5 2 ?_
   refine pu 6 3 ?_
   refine done_ (by kernel_rfl) ?_
   go_wp2_with fail
   go_ret2
   exact ⟨_, _, rfl, ⟨fun h => absurd h (by decide), fun h => absurd h HN.out⟩, by repeat (first | exact HB4.out | apply below_drew1 | apply below_alloc)⟩
  rw [rounds_succ]
  go_wp2_with fail
  refine start_ (n := 6) (S := fun w' => w'.cell? ⟨w2.heap.size, 0, none⟩ = some (.pointer (some ⟨q, 0, none⟩)) ∧ w'.cell? ⟨q, 0, none⟩ = some (.int .i64 ea)) (ds := []) #[false, false, false, false, false, false] (by kernel_rfl) rfl rfl ⟨hf4, hq0⟩ (fun hHeld => ?_)
  refine tk2 0 30 ?_
  refine pu 1 31 ?_
  refine pu 2 32 ?_
  refine tk2 3 33 ?_
  refine pu 4 2 ?_
  refine pu 5 3 ?_
  refine done_ (by kernel_rfl) ?_
  go_wp2_with fail
  go_ret2
  exact ⟨_, _, rfl, ⟨fun h => absurd h (by decide), fun h => absurd h HN.out⟩, by repeat (first | exact HB4.out | apply below_drew1 | apply below_alloc)⟩
theorem right_any (A0 : Option Addr) (c0 : Nat) (P : List S43) (A1 : Option Addr) (c1 : Nat) (L : List S39) (a2 a3 a4 a5 a6 a7 a8 a9 a10 a11 a12 : Int) (w : World) (hr0 : Kd.C k43 w A0 P.length P) (hc0 : P.length ≤ c0) (hr1 : Kd.C k39 w A1 L.length L) (hc1 : L.length ≤ c1) (hP : P.length ≤ 1000) (hL : L.length ≤ 1000) (hg : w.cell? ⟨0, 0, none⟩ = some (.iface 98 (.agg #[.pointer (some ⟨1, 59, none⟩)]))) :
  Calls Tryd.prog 22 #[.agg #[.slice A0 P.length c0, .slice A1 L.length c1, .int .i64 a2, .int .i64 a3, .int .i64 a4, .int .i64 a5, .int .i64 a6, .int .i64 a7, .int .i64 a8, .int .i64 a9, .int .i64 a10, .int .i64 a11, .int .i64 a12]] w fun ev w' => ∃ r : Bool, ev = .returned (.bool r) ∧ (r = true ↔ netsOk P L) ∧ Below w.heap.size w w' := by
 have hc := fun (W : World) (hB : Below w.heap.size w W) => Check_any A0 c0 P A1 c1 L a2 a3 a4 a5 a6 a7 a8 a9 a10 a11 a12 W (Kd.C_below hr0 hB) hc0 (Kd.C_below hr1 hB) hc1 hP hL ((hB.cell (World.block_lt_of_cell? w _ hg)).trans hg)
 have HC := am hc
 clear hc hr0 hr1 hc0 hc1 hP hL hg
 go_enter Tryd.func22, Tryd.ntmps22
 have HB1 := am (below_alloc (Below.refl w.heap.size w) (Obj.cells #[.slice A0 P.length c0, .slice A1 L.length c1, .int .i64 a2, .int .i64 a3, .int .i64 a4, .int .i64 a5, .int .i64 a6, .int .i64 a7, .int .i64 a8, .int .i64 a9, .int .i64 a10, .int .i64 a11, .int .i64 a12] 25))
 go_wp2_with fail
 refine (HC.out _ HB1.out).mono ?_
 rintro e w2 ⟨r, m, rfl, hI, hb⟩
 have HB2 := am (below_step HB1.out hb)
 have HI := am hI
 clear hb hI
 cases hr : (r == (0 : Int)) with
 | true =>
  have hN := HI.out.1 (eq_of_beq hr)
  have HN := am hN
  clear hN
  go_wp2_with fail
  go_ret
  exact ⟨true, rfl, ⟨fun _ => HN.out, fun _ => rfl⟩, HB2.out⟩
 | false =>
  have HN := am (show ¬ netsOk P L from fun h => (beq_eq_false_iff_ne.mp hr) (HI.out.2 h))
  go_wp2_with fail
  go_ret
  exact ⟨false, rfl, ⟨fun h => absurd h (by decide), fun h => absurd h HN.out⟩, HB2.out⟩
def Gv (w : World) : Prop := w.cell? ⟨0, 0, none⟩ = some (.iface 98 (.agg #[.pointer (some ⟨1, 59, none⟩)]))
theorem Gv.below {w W : World} {k : Nat} (h : Gv w) (hb : Below w.heap.size w W) : Gv W := (hb.cell (World.block_lt_of_cell? w _ h)).trans h
theorem right_total (A0 : Option Addr) (c0 : Nat) (P : List S43) (A1 : Option Addr) (c1 : Nat) (L : List S39) (a2 a3 a4 a5 a6 a7 a8 a9 a10 a11 a12 : Int) (w : World) (hr0 : Kd.C k43 w A0 P.length P) (hc0 : P.length ≤ c0) (hr1 : Kd.C k39 w A1 L.length L) (hc1 : L.length ≤ c1) (hP : P.length ≤ 1000) (hL : L.length ≤ 1000) (hG : Gv w) :
  Calls Tryd.prog 22 #[.agg #[.slice A0 P.length c0, .slice A1 L.length c1, .int .i64 a2, .int .i64 a3, .int .i64 a4, .int .i64 a5, .int .i64 a6, .int .i64 a7, .int .i64 a8, .int .i64 a9, .int .i64 a10, .int .i64 a11, .int .i64 a12]] w fun e w' => e = .returned (.bool (netsB P L)) ∧ Below w.heap.size w w' := by
 refine (right_any A0 c0 P A1 c1 L a2 a3 a4 a5 a6 a7 a8 a9 a10 a11 a12 w hr0 hc0 hr1 hc1 hP hL hG).mono ?_
 rintro e w' ⟨r, rfl, hi, hb⟩
 have e_ : r = netsB P L := by rw [Bool.eq_iff_iff, netsB_iff]; exact hi
 exact ⟨by rw [e_], hb⟩
end Go.Proofs.YtbefbhghmommhaaDoor.MWo
namespace Go.Proofs.YtbefbhghmommhaaDoor.MWo
open Go.RowKit Go.Proofs.YtbefbhghmommhaaDoorW.PrintWords Go.Proofs.YtbefbhghmommhaaDoorW.PrintLast Go.Proofs.YtbefbhghmommhaaDoorW.PrintMore
attribute [local go_sem] mp_u32s mp_u32m mp_u8s mp_u8m max2_int min2_int max_two min_two max_three min_three max_four min_four
set_option linter.unusedVariables false
set_option linter.unusedSimpArgs false
def plan_Right.f (l0_0 : List S43) (l0_1 : List S39) (a0_2 a0_3 a0_4 a0_5 a0_6 a0_7 a0_8 a0_9 a0_10 a0_11 a0_12 : Int) : Option Bool := if l0_0.length ≤ 1000 ∧ l0_1.length ≤ 1000 then some (netsB l0_0 l0_1) else none
theorem plan_Right.calls (A0_0 : Option Addr) (c0_0 : Nat) (l0_0 : List S43) (A0_1 : Option Addr) (c0_1 : Nat) (l0_1 : List S39) (a0_2 a0_3 a0_4 a0_5 a0_6 a0_7 a0_8 a0_9 a0_10 a0_11 a0_12 : Int) (r : Bool) (w : World) (hr0_0 : Kd.C k43 w A0_0 l0_0.length l0_0) (hc0_0 : l0_0.length ≤ c0_0) (hr0_1 : Kd.C k39 w A0_1 l0_1.length l0_1) (hc0_1 : l0_1.length ≤ c0_1) (h : plan_Right.f l0_0 l0_1 a0_2 a0_3 a0_4 a0_5 a0_6 a0_7 a0_8 a0_9 a0_10 a0_11 a0_12 = some r) (hG : Gv w) :
  Calls Tryd.prog 22 #[.agg #[.slice A0_0 l0_0.length c0_0, .slice A0_1 l0_1.length c0_1, .int .i64 a0_2, .int .i64 a0_3, .int .i64 a0_4, .int .i64 a0_5, .int .i64 a0_6, .int .i64 a0_7, .int .i64 a0_8, .int .i64 a0_9, .int .i64 a0_10, .int .i64 a0_11, .int .i64 a0_12]] w fun e w' => e = .returned (.bool r) ∧ Below w.heap.size w w' := by
 unfold plan_Right.f at h
 split at h
 ·rename_i hn
  injection h with h
  subst h
  exact right_total A0_0 c0_0 l0_0 A0_1 c0_1 l0_1 a0_2 a0_3 a0_4 a0_5 a0_6 a0_7 a0_8 a0_9 a0_10 a0_11 a0_12 w hr0_0 hc0_0 hr0_1 hc0_1 hn.1 hn.2 hG
 ·cases h
def hops_right.f (l0_0 : List (S43)) (l0_1 : List (S39)) (a0_2 : Int) (a0_3 : Int) (a0_4 : Int) (a0_5 : Int) (a0_6 : Int) (a0_7 : Int) (a0_8 : Int) (a0_9 : Int) (a0_10 : Int) (a0_11 : Int) (a0_12 : Int) (a1 : Int) (a2 : Int) : Option (Bool) := (plan_Right.f l0_0 l0_1 a0_2 a0_3 a0_4 a0_5 a0_6 a0_7 a0_8 a0_9 a0_10 a0_11 a0_12).bind fun t131 => (if t131 = true then (if a1 ≥ 0 then (if a1 < (l0_0.length : Int) then (if a2 ≥ 0 then (some (decide (a2 < (l0_0.length : Int)))) else (some false)) else (some false)) else (some false)) else (some false))
set_option maxHeartbeats 8000000 in
set_option maxRecDepth 100000 in
theorem hops_right.calls (A0_0 : Option Addr) (c0_0 : Nat) (l0_0 : List (S43)) (A0_1 : Option Addr) (c0_1 : Nat) (l0_1 : List (S39)) (a0_2 : Int) (a0_3 : Int) (a0_4 : Int) (a0_5 : Int) (a0_6 : Int) (a0_7 : Int) (a0_8 : Int) (a0_9 : Int) (a0_10 : Int) (a0_11 : Int) (a0_12 : Int) (a1 : Int) (a2 : Int) (r : Bool) (w : World) (hr0_0 : Kd.C k43 w A0_0 l0_0.length l0_0) (hc0_0 : l0_0.length ≤ c0_0) (hr0_1 : Kd.C k39 w A0_1 l0_1.length l0_1) (hc0_1 : l0_1.length ≤ c0_1) (h : hops_right.f l0_0 l0_1 a0_2 a0_3 a0_4 a0_5 a0_6 a0_7 a0_8 a0_9 a0_10 a0_11 a0_12 a1 a2 = some r) (hG : Gv w) :
  Calls Tryd.prog 15 #[.agg #[.slice A0_0 l0_0.length c0_0, .slice A0_1 l0_1.length c0_1, .int .i64 a0_2, .int .i64 a0_3, .int .i64 a0_4, .int .i64 a0_5, .int .i64 a0_6, .int .i64 a0_7, .int .i64 a0_8, .int .i64 a0_9, .int .i64 a0_10, .int .i64 a0_11, .int .i64 a0_12], .int .i64 a1, .int .i64 a2] w fun e w' => e = .returned (.bool r) ∧ Below w.heap.size w w' := by
 have HG := am hG
 clear hG
 have hu25 := Tryd.underlying25
 have HR0_0 := am hr0_0
 have HC0_0 := am hc0_0
 clear hr0_0 hc0_0
 have HR0_1 := am hr0_1
 have HC0_1 := am hc0_1
 clear hr0_1 hc0_1
 have HB := am (Below.refl w.heap.size w)
 have H : ((plan_Right.f l0_0 l0_1 a0_2 a0_3 a0_4 a0_5 a0_6 a0_7 a0_8 a0_9 a0_10 a0_11 a0_12).bind fun t131 => (if t131 = true then (if a1 ≥ 0 then (if a1 < (l0_0.length : Int) then (if a2 ≥ 0 then (some (decide (a2 < (l0_0.length : Int)))) else (some false)) else (some false)) else (some false)) else (some false))) = some r := h
 clear h
 replace H := bS H
 obtain ⟨t131, A40, H⟩ := H
 replace H : (if t131 = true then (if a1 ≥ 0 then (if a1 < (l0_0.length : Int) then (if a2 ≥ 0 then (some (decide (a2 < (l0_0.length : Int)))) else (some false)) else (some false)) else (some false)) else (some false)) = some r := H
 have A4 := am A40
 clear A40
 by_cases c5 : t131 = true
 case' neg =>
  replace c5 := Bool.eq_false_iff.mpr c5
  subst c5
  have H1 : (some false) = some r := by rw [if_neg (show ¬ (false = true) by decide)] at H; exact H
  clear H
  have H := H1
  clear H1
  obtain rfl := Option.some.inj H
 rotate_left
 subst c5
 have H1 : (if a1 ≥ 0 then (if a1 < (l0_0.length : Int) then (if a2 ≥ 0 then (some (decide (a2 < (l0_0.length : Int)))) else (some false)) else (some false)) else (some false)) = some r := by rw [if_pos rfl] at H; exact H
 clear H
 have H := H1
 clear H1
 by_cases c6 : a1 ≥ 0
 case' neg =>
  rw [if_neg c6] at H
  have c6b0 : decide (0 ≤ a1) = false := dF c6
  clear c6
  obtain rfl := Option.some.inj H
 rotate_left
 rw [if_pos c6] at H
 have c6b0 : decide (0 ≤ a1) = true := dT c6
 clear c6
 by_cases c7 : a1 < (l0_0.length : Int)
 case' neg =>
  rw [if_neg c7] at H
  have c7b0 : decide (a1 < (l0_0.length : Int)) = false := dF c7
  clear c7
  obtain rfl := Option.some.inj H
 rotate_left
 rw [if_pos c7] at H
 have c7b0 : decide (a1 < (l0_0.length : Int)) = true := dT c7
 clear c7
 by_cases c8 : a2 ≥ 0
 case' neg =>
  rw [if_neg c8] at H
  have c8b0 : decide (0 ≤ a2) = false := dF c8
  clear c8
  obtain rfl := Option.some.inj H
 rotate_left
 rw [if_pos c8] at H
 have c8b0 : decide (0 ≤ a2) = true := dT c8
 clear c8
 obtain rfl := Option.some.inj H
 ·go_enter Tryd.func15, Tryd.ntmps15
  go_wp2_with (first | ((with_reducible refine gate_dst (N := 3) rfl ?_); (try (refine gate_guard (by rfl) ?_; dsimp only)); refine bxe 3 #[.slice A0_0 l0_0.length c0_0, .slice A0_1 l0_1.length c0_1, .int .i64 a0_2, .int .i64 a0_3, .int .i64 a0_4, .int .i64 a0_5, .int .i64 a0_6, .int .i64 a0_7, .int .i64 a0_8, .int .i64 a0_9, .int .i64 a0_10, .int .i64 a0_11, .int .i64 a0_12] 25 ?_; intro gb130 hg w9 hbox hb; have n0_ := am (below_step bl0 hb); have n1_ := am (hbox); have n2_ := am (gw0 hg); have n3_ := am (gw0 hg); clear HB; have HB := n0_; have BK130 := n1_; have GW130 := n2_; have GE130 := n3_; clear n0_ n1_ n2_ n3_; clear hb hbox hg; obtain ⟨hcz10_0, hcz10_1, hcz10_2, hcz10_3, hcz10_4, hcz10_5, hcz10_6, hcz10_7, hcz10_8, hcz10_9, hcz10_10, hcz10_11, hcz10_12⟩ := cellsK13 BK130.out; obtain ⟨hfz10_0, hfz10_1, hfz10_2, hfz10_3, hfz10_4, hfz10_5, hfz10_6, hfz10_7, hfz10_8, hfz10_9, hfz10_10, hfz10_11, hfz10_12⟩ := frozK13 BK130.out) | ((with_reducible refine gate_callee (f := 22) rfl ?_); refine goesL_ (some 8) rfl rfl Tryd.func22 (by kernel_rfl) rfl #[.agg #[.slice A0_0 l0_0.length c0_0, .slice A0_1 l0_1.length c0_1, .int .i64 a0_2, .int .i64 a0_3, .int .i64 a0_4, .int .i64 a0_5, .int .i64 a0_6, .int .i64 a0_7, .int .i64 a0_8, .int .i64 a0_9, .int .i64 a0_10, .int .i64 a0_11, .int .i64 a0_12]] rfl lm ?_; (with_reducible refine (plan_Right.calls _ _ l0_0 _ _ l0_1 a0_2 a0_3 a0_4 a0_5 a0_6 a0_7 a0_8 a0_9 a0_10 a0_11 a0_12 true _ ?side1 ?side2 ?side3 ?side4 A4.out (Gv.below (k := 0) HG.out (bl1 GE130))).mono ?_); (case side1 => exact kc HR0_0); (case side2 => exact HC0_0.out); (case side3 => exact kc HR0_1); (case side4 => exact HC0_1.out); rintro e w11 ⟨rfl, hb⟩; refine ⟨_, rfl, ?_⟩; have n0_ := am (blk_below (bk BK130) hb); have n1_ := am (below_step (bl1 GE130) hb); clear BK130; clear HB; have BK130 := n0_; have HB := n1_; clear n0_ n1_; (try clear hb); (try clear hb2); (try clear hk); (try clear hi); obtain ⟨hcz12_0, hcz12_1, hcz12_2, hcz12_3, hcz12_4, hcz12_5, hcz12_6, hcz12_7, hcz12_8, hcz12_9, hcz12_10, hcz12_11, hcz12_12⟩ := cellsK13 BK130.out; obtain ⟨hfz12_0, hfz12_1, hfz12_2, hfz12_3, hfz12_4, hfz12_5, hfz12_6, hfz12_7, hfz12_8, hfz12_9, hfz12_10, hfz12_11, hfz12_12⟩ := frozK13 BK130.out))
  go_ret
  exact ⟨ew, bl1 GE130⟩
 ·go_enter Tryd.func15, Tryd.ntmps15
  go_wp2_with (first | ((with_reducible refine gate_dst (N := 3) rfl ?_); (try (refine gate_guard (by rfl) ?_; dsimp only)); refine bxe 3 #[.slice A0_0 l0_0.length c0_0, .slice A0_1 l0_1.length c0_1, .int .i64 a0_2, .int .i64 a0_3, .int .i64 a0_4, .int .i64 a0_5, .int .i64 a0_6, .int .i64 a0_7, .int .i64 a0_8, .int .i64 a0_9, .int .i64 a0_10, .int .i64 a0_11, .int .i64 a0_12] 25 ?_; intro gb130 hg w24 hbox hb; have n0_ := am (below_step bl0 hb); have n1_ := am (hbox); have n2_ := am (gw0 hg); have n3_ := am (gw0 hg); clear HB; have HB := n0_; have BK130 := n1_; have GW130 := n2_; have GE130 := n3_; clear n0_ n1_ n2_ n3_; clear hb hbox hg; obtain ⟨hcz25_0, hcz25_1, hcz25_2, hcz25_3, hcz25_4, hcz25_5, hcz25_6, hcz25_7, hcz25_8, hcz25_9, hcz25_10, hcz25_11, hcz25_12⟩ := cellsK13 BK130.out; obtain ⟨hfz25_0, hfz25_1, hfz25_2, hfz25_3, hfz25_4, hfz25_5, hfz25_6, hfz25_7, hfz25_8, hfz25_9, hfz25_10, hfz25_11, hfz25_12⟩ := frozK13 BK130.out) | ((with_reducible refine gate_callee (f := 22) rfl ?_); refine goesL_ (some 8) rfl rfl Tryd.func22 (by kernel_rfl) rfl #[.agg #[.slice A0_0 l0_0.length c0_0, .slice A0_1 l0_1.length c0_1, .int .i64 a0_2, .int .i64 a0_3, .int .i64 a0_4, .int .i64 a0_5, .int .i64 a0_6, .int .i64 a0_7, .int .i64 a0_8, .int .i64 a0_9, .int .i64 a0_10, .int .i64 a0_11, .int .i64 a0_12]] rfl lm ?_; (with_reducible refine (plan_Right.calls _ _ l0_0 _ _ l0_1 a0_2 a0_3 a0_4 a0_5 a0_6 a0_7 a0_8 a0_9 a0_10 a0_11 a0_12 false _ ?side1 ?side2 ?side3 ?side4 A4.out (Gv.below (k := 0) HG.out (bl1 GE130))).mono ?_); (case side1 => exact kc HR0_0); (case side2 => exact HC0_0.out); (case side3 => exact kc HR0_1); (case side4 => exact HC0_1.out); rintro e w26 ⟨rfl, hb⟩; refine ⟨_, rfl, ?_⟩; have n0_ := am (blk_below (bk BK130) hb); have n1_ := am (below_step (bl1 GE130) hb); clear BK130; clear HB; have BK130 := n0_; have HB := n1_; clear n0_ n1_; (try clear hb); (try clear hb2); (try clear hk); (try clear hi)))
  go_ret
  exact ⟨ew, bl1 GE130⟩
 ·go_enter Tryd.func15, Tryd.ntmps15
  go_wp2_with (first | ((with_reducible refine gate_dst (N := 3) rfl ?_); (try (refine gate_guard (by rfl) ?_; dsimp only)); refine bxe 3 #[.slice A0_0 l0_0.length c0_0, .slice A0_1 l0_1.length c0_1, .int .i64 a0_2, .int .i64 a0_3, .int .i64 a0_4, .int .i64 a0_5, .int .i64 a0_6, .int .i64 a0_7, .int .i64 a0_8, .int .i64 a0_9, .int .i64 a0_10, .int .i64 a0_11, .int .i64 a0_12] 25 ?_; intro gb130 hg w21 hbox hb; have n0_ := am (below_step bl0 hb); have n1_ := am (hbox); have n2_ := am (gw0 hg); have n3_ := am (gw0 hg); clear HB; have HB := n0_; have BK130 := n1_; have GW130 := n2_; have GE130 := n3_; clear n0_ n1_ n2_ n3_; clear hb hbox hg; obtain ⟨hcz22_0, hcz22_1, hcz22_2, hcz22_3, hcz22_4, hcz22_5, hcz22_6, hcz22_7, hcz22_8, hcz22_9, hcz22_10, hcz22_11, hcz22_12⟩ := cellsK13 BK130.out; obtain ⟨hfz22_0, hfz22_1, hfz22_2, hfz22_3, hfz22_4, hfz22_5, hfz22_6, hfz22_7, hfz22_8, hfz22_9, hfz22_10, hfz22_11, hfz22_12⟩ := frozK13 BK130.out) | ((with_reducible refine gate_callee (f := 22) rfl ?_); refine goesL_ (some 8) rfl rfl Tryd.func22 (by kernel_rfl) rfl #[.agg #[.slice A0_0 l0_0.length c0_0, .slice A0_1 l0_1.length c0_1, .int .i64 a0_2, .int .i64 a0_3, .int .i64 a0_4, .int .i64 a0_5, .int .i64 a0_6, .int .i64 a0_7, .int .i64 a0_8, .int .i64 a0_9, .int .i64 a0_10, .int .i64 a0_11, .int .i64 a0_12]] rfl lm ?_; (with_reducible refine (plan_Right.calls _ _ l0_0 _ _ l0_1 a0_2 a0_3 a0_4 a0_5 a0_6 a0_7 a0_8 a0_9 a0_10 a0_11 a0_12 true _ ?side1 ?side2 ?side3 ?side4 A4.out (Gv.below (k := 0) HG.out (bl1 GE130))).mono ?_); (case side1 => exact kc HR0_0); (case side2 => exact HC0_0.out); (case side3 => exact kc HR0_1); (case side4 => exact HC0_1.out); rintro e w23 ⟨rfl, hb⟩; refine ⟨_, rfl, ?_⟩; have n0_ := am (blk_below (bk BK130) hb); have n1_ := am (below_step (bl1 GE130) hb); clear BK130; clear HB; have BK130 := n0_; have HB := n1_; clear n0_ n1_; (try clear hb); (try clear hb2); (try clear hk); (try clear hi)))
  go_ret
  exact ⟨ew, bl1 GE130⟩
 iterate 2
  focus
   go_enter Tryd.func15, Tryd.ntmps15
   go_wp2_with (first | ((with_reducible refine gate_dst (N := 3) rfl ?_); (try (refine gate_guard (by rfl) ?_; dsimp only)); refine bxe 3 #[.slice A0_0 l0_0.length c0_0, .slice A0_1 l0_1.length c0_1, .int .i64 a0_2, .int .i64 a0_3, .int .i64 a0_4, .int .i64 a0_5, .int .i64 a0_6, .int .i64 a0_7, .int .i64 a0_8, .int .i64 a0_9, .int .i64 a0_10, .int .i64 a0_11, .int .i64 a0_12] 25 ?_; intro gb130 hg w17 hbox hb; have n0_ := am (below_step bl0 hb); have n1_ := am (hbox); have n2_ := am (gw0 hg); have n3_ := am (gw0 hg); clear HB; have HB := n0_; have BK130 := n1_; have GW130 := n2_; have GE130 := n3_; clear n0_ n1_ n2_ n3_; clear hb hbox hg; obtain ⟨hcz18_0, hcz18_1, hcz18_2, hcz18_3, hcz18_4, hcz18_5, hcz18_6, hcz18_7, hcz18_8, hcz18_9, hcz18_10, hcz18_11, hcz18_12⟩ := cellsK13 BK130.out; obtain ⟨hfz18_0, hfz18_1, hfz18_2, hfz18_3, hfz18_4, hfz18_5, hfz18_6, hfz18_7, hfz18_8, hfz18_9, hfz18_10, hfz18_11, hfz18_12⟩ := frozK13 BK130.out) | ((with_reducible refine gate_callee (f := 22) rfl ?_); refine goesL_ (some 8) rfl rfl Tryd.func22 (by kernel_rfl) rfl #[.agg #[.slice A0_0 l0_0.length c0_0, .slice A0_1 l0_1.length c0_1, .int .i64 a0_2, .int .i64 a0_3, .int .i64 a0_4, .int .i64 a0_5, .int .i64 a0_6, .int .i64 a0_7, .int .i64 a0_8, .int .i64 a0_9, .int .i64 a0_10, .int .i64 a0_11, .int .i64 a0_12]] rfl lm ?_; (with_reducible refine (plan_Right.calls _ _ l0_0 _ _ l0_1 a0_2 a0_3 a0_4 a0_5 a0_6 a0_7 a0_8 a0_9 a0_10 a0_11 a0_12 true _ ?side1 ?side2 ?side3 ?side4 A4.out (Gv.below (k := 0) HG.out (bl1 GE130))).mono ?_); (case side1 => exact kc HR0_0); (case side2 => exact HC0_0.out); (case side3 => exact kc HR0_1); (case side4 => exact HC0_1.out); rintro e w19 ⟨rfl, hb⟩; refine ⟨_, rfl, ?_⟩; have n0_ := am (blk_below (bk BK130) hb); have n1_ := am (below_step (bl1 GE130) hb); clear BK130; clear HB; have BK130 := n0_; have HB := n1_; clear n0_ n1_; (try clear hb); (try clear hb2); (try clear hk); (try clear hi); obtain ⟨hcz20_0, hcz20_1, hcz20_2, hcz20_3, hcz20_4, hcz20_5, hcz20_6, hcz20_7, hcz20_8, hcz20_9, hcz20_10, hcz20_11, hcz20_12⟩ := cellsK13 BK130.out; obtain ⟨hfz20_0, hfz20_1, hfz20_2, hfz20_3, hfz20_4, hfz20_5, hfz20_6, hfz20_7, hfz20_8, hfz20_9, hfz20_10, hfz20_11, hfz20_12⟩ := frozK13 BK130.out))
   go_ret
   exact ⟨ew, bl1 GE130⟩
def hops_Dist.f (k : Nat) (l0_0 : List (S43)) (l0_1 : List (S39)) (a0_2 : Int) (a0_3 : Int) (a0_4 : Int) (a0_5 : Int) (a0_6 : Int) (a0_7 : Int) (a0_8 : Int) (a0_9 : Int) (a0_10 : Int) (a0_11 : Int) (a0_12 : Int) (a1 : Int) (a2 : Int) : Option (Int) := (hops_right.f l0_0 l0_1 a0_2 a0_3 a0_4 a0_5 a0_6 a0_7 a0_8 a0_9 a0_10 a0_11 a0_12 a1 a2).bind fun t133 => (if t133 = true then ((plan_Dists.f k l0_0 l0_1 a0_2 a0_3 a0_4 a0_5 a0_6 a0_7 a0_8 a0_9 a0_10 a0_11 a0_12 a2).bind fun t134 => (if 0 ≤ a1 then (if a1 < (t134.length : Int) then (some (rd t134 a1)) else (none)) else (none))) else (some (-1)))
set_option maxHeartbeats 8000000 in
set_option maxRecDepth 100000 in
theorem hops_Dist.calls (k : Nat) (A0_0 : Option Addr) (c0_0 : Nat) (l0_0 : List (S43)) (A0_1 : Option Addr) (c0_1 : Nat) (l0_1 : List (S39)) (a0_2 : Int) (a0_3 : Int) (a0_4 : Int) (a0_5 : Int) (a0_6 : Int) (a0_7 : Int) (a0_8 : Int) (a0_9 : Int) (a0_10 : Int) (a0_11 : Int) (a0_12 : Int) (a1 : Int) (a2 : Int) (r : Int) (w : World) (hr0_0 : Kd.C k43 w A0_0 l0_0.length l0_0) (hc0_0 : l0_0.length ≤ c0_0) (hr0_1 : Kd.C k39 w A0_1 l0_1.length l0_1) (hc0_1 : l0_1.length ≤ c0_1) (h : hops_Dist.f k l0_0 l0_1 a0_2 a0_3 a0_4 a0_5 a0_6 a0_7 a0_8 a0_9 a0_10 a0_11 a0_12 a1 a2 = some r) (hG : Gv w) :
  Calls Tryd.prog 5 #[.agg #[.slice A0_0 l0_0.length c0_0, .slice A0_1 l0_1.length c0_1, .int .i64 a0_2, .int .i64 a0_3, .int .i64 a0_4, .int .i64 a0_5, .int .i64 a0_6, .int .i64 a0_7, .int .i64 a0_8, .int .i64 a0_9, .int .i64 a0_10, .int .i64 a0_11, .int .i64 a0_12], .int .i64 a1, .int .i64 a2] w fun e w' => e = .returned (.int .i64 r) ∧ Below w.heap.size w w' := by
 have HG := am hG
 clear hG
 have hu25 := Tryd.underlying25
 have HR0_0 := am hr0_0
 have HC0_0 := am hc0_0
 clear hr0_0 hc0_0
 have HR0_1 := am hr0_1
 have HC0_1 := am hc0_1
 clear hr0_1 hc0_1
 have HB := am (Below.refl w.heap.size w)
 have H : ((hops_right.f l0_0 l0_1 a0_2 a0_3 a0_4 a0_5 a0_6 a0_7 a0_8 a0_9 a0_10 a0_11 a0_12 a1 a2).bind fun t133 => (if t133 = true then ((plan_Dists.f k l0_0 l0_1 a0_2 a0_3 a0_4 a0_5 a0_6 a0_7 a0_8 a0_9 a0_10 a0_11 a0_12 a2).bind fun t134 => (if 0 ≤ a1 then (if a1 < (t134.length : Int) then (some (rd t134 a1)) else (none)) else (none))) else (some (-1)))) = some r := h
 clear h
 replace H := bS H
 obtain ⟨t133, A40, H⟩ := H
 replace H : (if t133 = true then ((plan_Dists.f k l0_0 l0_1 a0_2 a0_3 a0_4 a0_5 a0_6 a0_7 a0_8 a0_9 a0_10 a0_11 a0_12 a2).bind fun t134 => (if 0 ≤ a1 then (if a1 < (t134.length : Int) then (some (rd t134 a1)) else (none)) else (none))) else (some (-1))) = some r := H
 have A4 := am A40
 clear A40
 by_cases c5 : t133 = true
 ·subst c5
  have H1 : ((plan_Dists.f k l0_0 l0_1 a0_2 a0_3 a0_4 a0_5 a0_6 a0_7 a0_8 a0_9 a0_10 a0_11 a0_12 a2).bind fun t134 => (if 0 ≤ a1 then (if a1 < (t134.length : Int) then (some (rd t134 a1)) else (none)) else (none))) = some r := by rw [if_pos rfl] at H; exact H
  clear H
  have H := H1
  clear H1
  replace H := bS H
  obtain ⟨t134, A60, H⟩ := H
  replace H : (if 0 ≤ a1 then (if a1 < (t134.length : Int) then (some (rd t134 a1)) else (none)) else (none)) = some r := H
  have A6 := am A60
  clear A60
  by_cases c7 : 0 ≤ a1
  ·rw [if_pos c7] at H
   have c7b0 : decide (0 ≤ a1) = true := dT c7
   clear c7
   by_cases c8 : a1 < (t134.length : Int)
   ·rw [if_pos c8] at H
    have c8b0 : decide (a1 < (t134.length : Int)) = true := dT c8
    clear c8
    obtain rfl := Option.some.inj H
    go_enter Tryd.func5, Tryd.ntmps5
    go_wp2_with (first | ((with_reducible refine gate_dst (N := 3) rfl ?_); refine bxe 3 #[.slice A0_0 l0_0.length c0_0, .slice A0_1 l0_1.length c0_1, .int .i64 a0_2, .int .i64 a0_3, .int .i64 a0_4, .int .i64 a0_5, .int .i64 a0_6, .int .i64 a0_7, .int .i64 a0_8, .int .i64 a0_9, .int .i64 a0_10, .int .i64 a0_11, .int .i64 a0_12] 25 ?_; intro gb132 hg w9 hbox hb; have n0_ := am (below_step bl0 hb); have n1_ := am (hbox); have n2_ := am (gw0 hg); have n3_ := am (gw0 hg); clear HB; have HB := n0_; have BK132 := n1_; have GW132 := n2_; have GE132 := n3_; clear n0_ n1_ n2_ n3_; clear hb hbox hg; obtain ⟨hcz10_0, hcz10_1, hcz10_2, hcz10_3, hcz10_4, hcz10_5, hcz10_6, hcz10_7, hcz10_8, hcz10_9, hcz10_10, hcz10_11, hcz10_12⟩ := cellsK13 BK132.out; obtain ⟨hfz10_0, hfz10_1, hfz10_2, hfz10_3, hfz10_4, hfz10_5, hfz10_6, hfz10_7, hfz10_8, hfz10_9, hfz10_10, hfz10_11, hfz10_12⟩ := frozK13 BK132.out) | ((with_reducible refine gate_callee (f := 15) rfl ?_); refine goesL_ (some 10) rfl rfl Tryd.func15 (by kernel_rfl) rfl #[.agg #[.slice A0_0 l0_0.length c0_0, .slice A0_1 l0_1.length c0_1, .int .i64 a0_2, .int .i64 a0_3, .int .i64 a0_4, .int .i64 a0_5, .int .i64 a0_6, .int .i64 a0_7, .int .i64 a0_8, .int .i64 a0_9, .int .i64 a0_10, .int .i64 a0_11, .int .i64 a0_12], .int .i64 a1, .int .i64 a2] rfl lm ?_; (with_reducible refine (hops_right.calls _ _ l0_0 _ _ l0_1 a0_2 a0_3 a0_4 a0_5 a0_6 a0_7 a0_8 a0_9 a0_10 a0_11 a0_12 a1 a2 true _ ?side1 ?side2 ?side3 ?side4 A4.out (Gv.below (k := 0) HG.out (bl1 GE132))).mono ?_); (case side1 => exact kc HR0_0); (case side2 => exact HC0_0.out); (case side3 => exact kc HR0_1); (case side4 => exact HC0_1.out); rintro e w11 ⟨rfl, hb⟩; refine ⟨_, rfl, ?_⟩; have n0_ := am (blk_below (bk BK132) hb); have n1_ := am (below_step (bl1 GE132) hb); clear BK132; clear HB; have BK132 := n0_; have HB := n1_; clear n0_ n1_; (try clear hb); (try clear hb2); (try clear hk); (try clear hi); obtain ⟨hcz12_0, hcz12_1, hcz12_2, hcz12_3, hcz12_4, hcz12_5, hcz12_6, hcz12_7, hcz12_8, hcz12_9, hcz12_10, hcz12_11, hcz12_12⟩ := cellsK13 BK132.out; obtain ⟨hfz12_0, hfz12_1, hfz12_2, hfz12_3, hfz12_4, hfz12_5, hfz12_6, hfz12_7, hfz12_8, hfz12_9, hfz12_10, hfz12_11, hfz12_12⟩ := frozK13 BK132.out) | ((with_reducible refine gate_callee (f := 16) rfl ?_); refine goesL_ (some 14) rfl rfl Tryd.func16 (by kernel_rfl) rfl #[.agg #[.slice A0_0 l0_0.length c0_0, .slice A0_1 l0_1.length c0_1, .int .i64 a0_2, .int .i64 a0_3, .int .i64 a0_4, .int .i64 a0_5, .int .i64 a0_6, .int .i64 a0_7, .int .i64 a0_8, .int .i64 a0_9, .int .i64 a0_10, .int .i64 a0_11, .int .i64 a0_12], .int .i64 a2] rfl lm ?_; (with_reducible refine (plan_Dists.calls k _ _ l0_0 _ _ l0_1 a0_2 a0_3 a0_4 a0_5 a0_6 a0_7 a0_8 a0_9 a0_10 a0_11 a0_12 a2 t134 _ ?side1 ?side2 ?side3 ?side4 A6.out).mono ?_); (case side1 => exact kc HR0_0); (case side2 => exact HC0_0.out); (case side3 => exact kc HR0_1); (case side4 => exact HC0_1.out); rintro e w13 ⟨v135, rfl, ho0, hb⟩; refine ⟨_, rfl, ?_⟩; have n0_ := am (Kd.R_lower ho0 (below_size (bl1 GE132))); have n1_ := am (blk_below (bk BK132) hb); have n2_ := am (below_step (bl1 GE132) hb); clear BK132; clear HB; have HO136 := n0_; have BK132 := n1_; have HB := n2_; clear n0_ n1_ n2_; (try clear hb); (try clear hb2); (try clear hk); (try clear hi); (try clear ho0); obtain ⟨Ao14, co14, eo14⟩ := Kd.R_slice HO136.out; subst eo14; have p137 : 0 ≤ (a1 : Int) := oT asm; have q137 : a1 < (t134.length : Int) := oT asm; obtain ⟨ad137, e137, hx137_0⟩ := Kd.at_int (Kd.R_reads' HO136.out).2.2 a1 p137 q137; cases e137; replace p137 := eq_true p137; replace q137 := eq_true q137))
    go_ret
    exact ⟨ew, bl1 GE132⟩
   ·rw [if_neg c8] at H
    exact absurd H (by simp)
  ·rw [if_neg c7] at H
   exact absurd H (by simp)
 ·replace c5 := Bool.eq_false_iff.mpr c5
  subst c5
  have H1 : (some (-1)) = some r := by rw [if_neg (show ¬ (false = true) by decide)] at H; exact H
  clear H
  have H := H1
  clear H1
  obtain rfl := Option.some.inj H
  go_enter Tryd.func5, Tryd.ntmps5
  go_wp2_with (first | ((with_reducible refine gate_dst (N := 3) rfl ?_); refine bxe 3 #[.slice A0_0 l0_0.length c0_0, .slice A0_1 l0_1.length c0_1, .int .i64 a0_2, .int .i64 a0_3, .int .i64 a0_4, .int .i64 a0_5, .int .i64 a0_6, .int .i64 a0_7, .int .i64 a0_8, .int .i64 a0_9, .int .i64 a0_10, .int .i64 a0_11, .int .i64 a0_12] 25 ?_; intro gb132 hg w15 hbox hb; have n0_ := am (below_step bl0 hb); have n1_ := am (hbox); have n2_ := am (gw0 hg); have n3_ := am (gw0 hg); clear HB; have HB := n0_; have BK132 := n1_; have GW132 := n2_; have GE132 := n3_; clear n0_ n1_ n2_ n3_; clear hb hbox hg; obtain ⟨hcz16_0, hcz16_1, hcz16_2, hcz16_3, hcz16_4, hcz16_5, hcz16_6, hcz16_7, hcz16_8, hcz16_9, hcz16_10, hcz16_11, hcz16_12⟩ := cellsK13 BK132.out; obtain ⟨hfz16_0, hfz16_1, hfz16_2, hfz16_3, hfz16_4, hfz16_5, hfz16_6, hfz16_7, hfz16_8, hfz16_9, hfz16_10, hfz16_11, hfz16_12⟩ := frozK13 BK132.out) | ((with_reducible refine gate_callee (f := 15) rfl ?_); refine goesL_ (some 10) rfl rfl Tryd.func15 (by kernel_rfl) rfl #[.agg #[.slice A0_0 l0_0.length c0_0, .slice A0_1 l0_1.length c0_1, .int .i64 a0_2, .int .i64 a0_3, .int .i64 a0_4, .int .i64 a0_5, .int .i64 a0_6, .int .i64 a0_7, .int .i64 a0_8, .int .i64 a0_9, .int .i64 a0_10, .int .i64 a0_11, .int .i64 a0_12], .int .i64 a1, .int .i64 a2] rfl lm ?_; (with_reducible refine (hops_right.calls _ _ l0_0 _ _ l0_1 a0_2 a0_3 a0_4 a0_5 a0_6 a0_7 a0_8 a0_9 a0_10 a0_11 a0_12 a1 a2 false _ ?side1 ?side2 ?side3 ?side4 A4.out (Gv.below (k := 0) HG.out (bl1 GE132))).mono ?_); (case side1 => exact kc HR0_0); (case side2 => exact HC0_0.out); (case side3 => exact kc HR0_1); (case side4 => exact HC0_1.out); rintro e w17 ⟨rfl, hb⟩; refine ⟨_, rfl, ?_⟩; have n0_ := am (blk_below (bk BK132) hb); have n1_ := am (below_step (bl1 GE132) hb); clear BK132; clear HB; have BK132 := n0_; have HB := n1_; clear n0_ n1_; (try clear hb); (try clear hb2); (try clear hk); (try clear hi)))
  go_ret
  exact ⟨ew, bl1 GE132⟩
def hops_across.f (a0_0 : Int) (a0_1 : Int) (a0_2 : Int) (a0_3 : Int) (a0_4 : Int) (a0_5 : Int) (a1 : Int) : Option (Int) := if a1 = a0_0 then (some a0_1) else (if a1 = a0_1 then (some a0_0) else (some (-1)))
set_option maxHeartbeats 8000000 in
set_option maxRecDepth 100000 in
theorem hops_across.calls (a0_0 : Int) (a0_1 : Int) (a0_2 : Int) (a0_3 : Int) (a0_4 : Int) (a0_5 : Int) (a1 : Int) (r : Int) (w : World) (h : hops_across.f a0_0 a0_1 a0_2 a0_3 a0_4 a0_5 a1 = some r) :
  Calls Tryd.prog 21 #[.agg #[.int .i64 a0_0, .int .i64 a0_1, .int .i64 a0_2, .int .i64 a0_3, .int .i64 a0_4, .int .i64 a0_5], .int .i64 a1] w fun e w' => e = .returned (.int .i64 r) ∧ Below w.heap.size w w' := by
 have hu39 := Tryd.underlying39
 have HB := am (Below.refl w.heap.size w)
 have H : (if a1 = a0_0 then (some a0_1) else (if a1 = a0_1 then (some a0_0) else (some (-1)))) = some r := h
 clear h
 by_cases c3 : a1 = a0_0
 ·rw [if_pos c3] at H
  have c3b0 : (a1 == a0_0) = true := beq_iff_eq.mpr c3
  have c3b1 : (a1 != a0_0) = false := bne_eq_false_iff_eq.mpr c3
  clear c3
  obtain rfl := Option.some.inj H
  go_enter Tryd.func21, Tryd.ntmps21
  go_wp2_with (first | ((with_reducible refine gate_dst (N := 2) rfl ?_); refine bxe 2 #[.int .i64 a0_0, .int .i64 a0_1, .int .i64 a0_2, .int .i64 a0_3, .int .i64 a0_4, .int .i64 a0_5] 39 ?_; intro gb141 hg w4 hbox hb; have n0_ := am (below_step bl0 hb); have n1_ := am (hbox); have n2_ := am (gw0 hg); have n3_ := am (gw0 hg); clear HB; have HB := n0_; have BK141 := n1_; have GW141 := n2_; have GE141 := n3_; clear n0_ n1_ n2_ n3_; clear hb hbox hg; obtain ⟨hcz5_0, hcz5_1, hcz5_2, hcz5_3, hcz5_4, hcz5_5⟩ := cellsK6 BK141.out; obtain ⟨hfz5_0, hfz5_1, hfz5_2, hfz5_3, hfz5_4, hfz5_5⟩ := frozK6 BK141.out))
  go_ret
  exact ⟨ew, bl1 GE141⟩
 ·rw [if_neg c3] at H
  have c3b0 : (a1 == a0_0) = false := beq_eq_false_iff_ne.mpr c3
  have c3b1 : (a1 != a0_0) = true := bne_iff_ne.mpr c3
  by_cases c6 : a1 = a0_1
  ·rw [if_pos c6] at H
   have c6b0 : (a1 == a0_1) = true := beq_iff_eq.mpr c6
   have c6b1 : (a1 != a0_1) = false := bne_eq_false_iff_eq.mpr c6
   clear c6
   obtain rfl := Option.some.inj H
   go_enter Tryd.func21, Tryd.ntmps21
   go_wp2_with (first | ((with_reducible refine gate_dst (N := 2) rfl ?_); refine bxe 2 #[.int .i64 a0_0, .int .i64 a0_1, .int .i64 a0_2, .int .i64 a0_3, .int .i64 a0_4, .int .i64 a0_5] 39 ?_; intro gb141 hg w7 hbox hb; have n0_ := am (below_step bl0 hb); have n1_ := am (hbox); have n2_ := am (gw0 hg); have n3_ := am (gw0 hg); clear HB; have HB := n0_; have BK141 := n1_; have GW141 := n2_; have GE141 := n3_; clear n0_ n1_ n2_ n3_; clear hb hbox hg; obtain ⟨hcz8_0, hcz8_1, hcz8_2, hcz8_3, hcz8_4, hcz8_5⟩ := cellsK6 BK141.out; obtain ⟨hfz8_0, hfz8_1, hfz8_2, hfz8_3, hfz8_4, hfz8_5⟩ := frozK6 BK141.out))
   go_ret
   exact ⟨ew, bl1 GE141⟩
  ·rw [if_neg c6] at H
   have c6b0 : (a1 == a0_1) = false := beq_eq_false_iff_ne.mpr c6
   have c6b1 : (a1 != a0_1) = true := bne_iff_ne.mpr c6
   obtain rfl := Option.some.inj H
   go_enter Tryd.func21, Tryd.ntmps21
   go_wp2_with (first | ((with_reducible refine gate_dst (N := 2) rfl ?_); refine bxe 2 #[.int .i64 a0_0, .int .i64 a0_1, .int .i64 a0_2, .int .i64 a0_3, .int .i64 a0_4, .int .i64 a0_5] 39 ?_; intro gb141 hg w9 hbox hb; have n0_ := am (below_step bl0 hb); have n1_ := am (hbox); have n2_ := am (gw0 hg); have n3_ := am (gw0 hg); clear HB; have HB := n0_; have BK141 := n1_; have GW141 := n2_; have GE141 := n3_; clear n0_ n1_ n2_ n3_; clear hb hbox hg; obtain ⟨hcz10_0, hcz10_1, hcz10_2, hcz10_3, hcz10_4, hcz10_5⟩ := cellsK6 BK141.out; obtain ⟨hfz10_0, hfz10_1, hfz10_2, hfz10_3, hfz10_4, hfz10_5⟩ := frozK6 BK141.out))
   go_ret
   exact ⟨ew, bl1 GE141⟩
end Go.Proofs.YtbefbhghmommhaaDoor.MWo
set_option linter.unusedVariables false
set_option linter.unusedSimpArgs false
namespace Go.Proofs.YtbefbhghmommhaaDoor.MWo
open Go.RowKit Go.Proofs.YtbefbhghmommhaaDoorW.PrintWords Go.Proofs.YtbefbhghmommhaaDoorW.PrintLast Go.Proofs.YtbefbhghmommhaaDoorW.PrintMore
def acr (x : S39) (a : Int) : Int := if a = x.f0 then x.f1 else if a = x.f1 then x.f0 else -1
def nearer (d : List Int) (a : Int) (x : S39) : Bool := decide (0 ≤ acr x a) && decide (rd d (acr x a) < rd d a)
set_option maxHeartbeats 4000000 in
set_option maxRecDepth 4000 in
theorem over1_walk (d : List Int) (a : Int) (F : Option Addr) (fc : Nat) (b1 b2 : Nat) (x : S39) (w : World) (h1 : w.cell? ⟨b1, 0, none⟩ = some (.int .i64 a)) (h2 : w.cell? ⟨b2, 0, none⟩ = some (.slice F d.length fc)) (hF : Kd.C (Kd.int .i64) w F d.length d) (l1 : b1 < w.heap.size) (l2 : b2 < w.heap.size)
  (ha0 : 0 ≤ a) (ha1 : a < d.length) (ho : acr x a < d.length) :
  Calls Tryd.prog 28 #[val39 x, .pointer (some ⟨b1, 0, none⟩), .pointer (some ⟨b2, 0, none⟩)] w fun e w' => e = .returned (.bool (nearer d a x)) ∧ Below w.heap.size w w' := by
 obtain ⟨x0, x1, ⟨p0, p1⟩, ⟨q0, q1⟩⟩ := x
 obtain ⟨o, hov⟩ : ∃ o, acr ⟨x0, x1, ⟨p0, p1⟩, ⟨q0, q1⟩⟩ a = o := ⟨_, rfl⟩
 have hacr : hops_across.f x0 x1 p0 p1 q0 q1 a = some o := by
  rw [← hov]; unfold hops_across.f acr
  by_cases e1 : a = x0
  ·rw [if_pos e1, if_pos e1]
  ·rw [if_neg e1, if_neg e1]
   by_cases e2 : a = x1
   ·rw [if_pos e2, if_pos e2]
   ·rw [if_neg e2, if_neg e2]
 have HT : nearer d a ⟨x0, x1, ⟨p0, p1⟩, ⟨q0, q1⟩⟩ = (decide (0 ≤ o) && decide (rd d o < rd d a)) := by unfold nearer; rw [hov]
 rw [hov] at ho
 rw [HT]
 clear HT hov
 obtain ⟨r, hr⟩ : ∃ r, r = (decide (0 ≤ o) && decide (rd d o < rd d a)) := ⟨_, rfl⟩
 rw [← hr]
 have HRR := am hr
 clear hr
 have HA := am hacr
 have HF := am hF
 have hn1 : w.heap.size ≠ b1 := by omega
 have hn2 : w.heap.size ≠ b2 := by omega
 have hm1 := Ne.symm hn1
 have hm2 := Ne.symm hn2
 have HD := am (And.intro ha0 (And.intro ha1 ho))
 have L1 := am l1
 have L2 := am l2
 have H1 := am h1
 have H2 := am h2
 clear hacr hF ha0 ha1 ho h2
 go_enter Tryd.func28, Tryd.ntmps28
 go_wp2_with fail
 refine (hops_across.calls x0 x1 p0 p1 q0 q1 a o _ HA.out).mono ?_
 rintro e w1 ⟨rfl, hb⟩
 have hb0 := below_step (below_alloc (Below.refl w.heap.size w) _) hb
 have HB := am hb0
 have z1 : w1.cell? ⟨b1, 0, none⟩ = some (.int .i64 a) := (hb0.cell (p := ⟨b1, 0, none⟩) L1.out).trans H1.out
 have z2 : w1.cell? ⟨b2, 0, none⟩ = some (.slice F d.length fc) := (hb0.cell (p := ⟨b2, 0, none⟩) L2.out).trans H2.out
 have HF1 := am (Kd.C_below HF.out hb0)
 clear hb hb0 h1 hn1 hn2 hm1 hm2 l1 l2
 obtain ⟨ad, e, y1⟩ := Kd.at_int HF1.out a HD.out.1 HD.out.2.1
 cases e
 have pa := eq_true HD.out.1
 have qa := eq_true HD.out.2.1
 by_cases h0 : 0 ≤ o
 ·have g0 : decide (0 ≤ o) = true := dT h0
  obtain ⟨ad2, e2, y2⟩ := Kd.at_int HF1.out o h0 HD.out.2.2
  cases e2
  have po := eq_true h0
  have qo := eq_true HD.out.2.2
  go_wp2_with fail
  go_quiet (fail)
  go_wp2_with fail
  go_ret
  exact ⟨by rw [HRR.out, g0]; rfl, by repeat (first | exact HB.out | apply below_drew1 | apply pw_below_drewN)⟩
 ·have g0 : decide (0 ≤ o) = false := dF h0
  go_wp2_with fail
  go_quiet (fail)
  go_wp2_with fail
  go_ret
  exact ⟨by rw [HRR.out, g0]; rfl, by repeat (first | exact HB.out | apply below_drew1 | apply pw_below_drewN)⟩
theorem rdlink_mem {l : List S39} {i : Int} (h0 : 0 ≤ i) (h1 : i < (l.length : Int)) : rd_T39 l i ∈ l := by
 have h : i.toNat < l.length := by omega
 have e : rd_T39 l i = l[i.toNat] := by simp [rd_T39, List.getD_eq_getElem?_getD, h]
 rw [e]
 exact List.getElem_mem h
set_option maxHeartbeats 1000000 in
set_option maxRecDepth 4000 in
theorem indexFuncOn (p : S39 → Bool) (g : Nat) (lb : Array Value) (eg : ∀ args w, (callFunc g args).run Tryd.prog w = .ok (.enter g args) w) (A0 : Option Addr) (c0 : Nat) (l : List S39) (w : World)
  (hr : Kd.C k39 w A0 l.length l) (hl : l.length ≤ 1000000) (hp : ∀ (W : World) (x : S39), x ∈ l → Below w.heap.size w W → Calls Tryd.prog g (#[val39 x] ++ lb) W fun e w' => e = .returned (.bool (p x)) ∧ Below W.heap.size W w') :
  Calls Tryd.prog 27 #[.slice A0 l.length c0, .func (.func g) #[] lb] w fun e w' => e = .returned (.int .i64 (findI p l)) ∧ Below w.heap.size w w' := by
 have HR := am hr
 have HP := am hp
 clear hr hp
 go_enter Tryd.func27, Tryd.ntmps27
 go_wp2_with fail
 go_loopg [5, 8] (l.length + 1) (fun kq _ v8 w' => ∃ i : Int, v8 = .int .i64 i ∧ Aside0 (kq + i = l.length + 1 ∧ 0 ≤ i) ∧ Aside0 (Below w.heap.size w w') ∧ Aside0 (∀ j : Nat, (j : Int) < i → p (rd_T39 l j) = false))
 case atStart => exact ⟨0, rfl, ⟨by omega⟩, ⟨Below.refl _ _⟩, ⟨fun j hj => absurd hj (by omega)⟩⟩
 case round =>
  obtain ⟨i, rfl, HK, HB, HN⟩ := hrel
  by_cases hi : i < (l.length : Int)
  ·have h0 := HK.out.2
   obtain ⟨ad, e, x0, x1, x2, x3, x4, x5⟩ := at_T39 (Kd.C_below HR.out HB.out) i h0 hi
   cases e
   have hcall := HP.out wr (rd_T39 l i) (rdlink_mem h0 hi) HB.out
   have hlt : decide (i < (l.length : Int)) = true := dT hi
   have hpx : Aside0 (p (rd_T39 l i) = p (rd_T39 l i)) := ⟨rfl⟩
   have Hrd : Aside0 (∃ x, rd_T39 l i = x) := ⟨_, rfl⟩
   obtain ⟨x, hx⟩ := Hrd.out
   rw [hx] at x0 x1 x2 x3 x4 x5 hcall
   have HX := am hx
   clear Hrd hpx hx
   have p0 := eq_true h0
   have p1 := eq_true hi
   have hw1 : wrap64 (i + 1) = i + 1 := by unfold wrap64; omega
   cases gk with
   | zero => exact absurd HK.out (by omega)
   | succ k1 =>
   cases hq : p x with
   | true =>
    rw [hq] at hcall
    go_wp2_with fail
    refine hcall.mono ?_
    rintro e w' ⟨rfl, hb'⟩
    have HB' := am hb'
    clear hb'
    go_wp2_with fail
    go_ret
    refine ⟨?_, below_step HB.out HB'.out⟩
    have e1 : i = (i.toNat : Int) := by omega
    rw [findI_hit (i := i.toNat) (by omega) (by rw [← e1, HX.out]; exact hq) (fun j hj => HN.out j (by omega)), ← e1]
    rfl
   | false =>
    rw [hq] at hcall
    go_wp2_with fail
    refine hcall.mono ?_
    rintro e w' ⟨rfl, hb'⟩
    have HB' := am hb'
    clear hb'
    go_wp2_with fail
    go_roundg k1
    case measure => have := HK.out; omega
    case rel =>
     refine ⟨i + 1, rfl, ⟨by have := HK.out; omega⟩, ⟨below_step HB.out HB'.out⟩, ⟨fun j hj => ?_⟩⟩
     by_cases e : (j : Int) = i
     ·rw [e, HX.out]; exact hq
     ·exact HN.out j (by omega)
  ·have hlt : decide (i < (l.length : Int)) = false := dF hi
   go_wp2_with fail
   go_ret
   refine ⟨?_, HB.out⟩
   rw [findI_miss (fun j hj => HN.out j (by omega))]
   rfl
set_option maxHeartbeats 4000000 in
set_option maxRecDepth 100000 in
theorem over_walk (k : Nat) (A0_0 : Option Addr) (c0_0 : Nat) (l0_0 : List (S43)) (A0_1 : Option Addr) (c0_1 : Nat) (l0_1 : List (S39)) (a0_2 a0_3 a0_4 a0_5 a0_6 a0_7 a0_8 a0_9 a0_10 a0_11 a0_12 : Int) (a b : Int) (d : List Int) (w : World) (hr0_0 : Kd.C k43 w A0_0 l0_0.length l0_0) (hc0_0 : l0_0.length ≤ c0_0) (hr0_1 : Kd.C k39 w A0_1 l0_1.length l0_1) (hc0_1 : l0_1.length ≤ c0_1)
  (hd : plan_Dists.f k l0_0 l0_1 a0_2 a0_3 a0_4 a0_5 a0_6 a0_7 a0_8 a0_9 a0_10 a0_11 a0_12 b = some d) (ha0 : 0 ≤ a) (ha1 : a < d.length) (hall : ∀ x ∈ l0_1, acr x a < d.length) (hl : l0_1.length ≤ 1000000) :
  Calls Tryd.prog 19 #[.agg #[.slice A0_0 l0_0.length c0_0, .slice A0_1 l0_1.length c0_1, .int .i64 a0_2, .int .i64 a0_3, .int .i64 a0_4, .int .i64 a0_5, .int .i64 a0_6, .int .i64 a0_7, .int .i64 a0_8, .int .i64 a0_9, .int .i64 a0_10, .int .i64 a0_11, .int .i64 a0_12], .int .i64 a, .int .i64 b] w fun e w' => e = .returned (.int .i64 (findI (nearer d a) l0_1)) ∧ Below w.heap.size w w' := by
 obtain ⟨r, hr⟩ : ∃ r, r = findI (nearer d a) l0_1 := ⟨_, rfl⟩
 rw [← hr]
 have HRR := am hr
 have HD := am hd
 have HALL := am (And.intro ha0 (And.intro ha1 (And.intro hall hl)))
 have HP := am hr0_0
 have HL := am hr0_1
 have HC := am (And.intro hc0_0 hc0_1)
 clear hr hd ha0 ha1 hall hl hr0_0 hr0_1 hc0_0 hc0_1
 go_enter Tryd.func19, Tryd.ntmps19
 go_upto_region 1 with fail
 have HB := am (below_alloc (below_alloc (Below.refl w.heap.size w) (Obj.cells #[.slice A0_0 l0_0.length c0_0, .slice A0_1 l0_1.length c0_1, .int .i64 a0_2, .int .i64 a0_3, .int .i64 a0_4, .int .i64 a0_5, .int .i64 a0_6, .int .i64 a0_7, .int .i64 a0_8, .int .i64 a0_9, .int .i64 a0_10, .int .i64 a0_11, .int .i64 a0_12] 25)) (Obj.cells #[.int .i64 a] 3))
 have HO : Aside0 (((w.alloc (.cells #[.slice A0_0 l0_0.length c0_0, .slice A0_1 l0_1.length c0_1, .int .i64 a0_2, .int .i64 a0_3, .int .i64 a0_4, .int .i64 a0_5, .int .i64 a0_6, .int .i64 a0_7, .int .i64 a0_8, .int .i64 a0_9, .int .i64 a0_10, .int .i64 a0_11, .int .i64 a0_12] 25)).alloc (.cells #[.int .i64 a] 3)).heap[w.heap.size]? = some (.cells #[.slice A0_0 l0_0.length c0_0, .slice A0_1 l0_1.length c0_1, .int .i64 a0_2, .int .i64 a0_3, .int .i64 a0_4, .int .i64 a0_5, .int .i64 a0_6, .int .i64 a0_7, .int .i64 a0_8, .int .i64 a0_9, .int .i64 a0_10, .int .i64 a0_11, .int .i64 a0_12] 25)) := ⟨blk_alloc (heap_alloc_new _ _) _⟩
 have HA : Aside0 (((w.alloc (.cells #[.slice A0_0 l0_0.length c0_0, .slice A0_1 l0_1.length c0_1, .int .i64 a0_2, .int .i64 a0_3, .int .i64 a0_4, .int .i64 a0_5, .int .i64 a0_6, .int .i64 a0_7, .int .i64 a0_8, .int .i64 a0_9, .int .i64 a0_10, .int .i64 a0_11, .int .i64 a0_12] 25)).alloc (.cells #[.int .i64 a] 3)).heap[w.heap.size + 1]? = some (.cells #[.int .i64 a] 3)) := ⟨by have := heap_alloc_new (w.alloc (.cells #[.slice A0_0 l0_0.length c0_0, .slice A0_1 l0_1.length c0_1, .int .i64 a0_2, .int .i64 a0_3, .int .i64 a0_4, .int .i64 a0_5, .int .i64 a0_6, .int .i64 a0_7, .int .i64 a0_8, .int .i64 a0_9, .int .i64 a0_10, .int .i64 a0_11, .int .i64 a0_12] 25)) (.cells #[.int .i64 a] 3); rwa [show (w.alloc (.cells #[.slice A0_0 l0_0.length c0_0, .slice A0_1 l0_1.length c0_1, .int .i64 a0_2, .int .i64 a0_3, .int .i64 a0_4, .int .i64 a0_5, .int .i64 a0_6, .int .i64 a0_7, .int .i64 a0_8, .int .i64 a0_9, .int .i64 a0_10, .int .i64 a0_11, .int .i64 a0_12] 25)).heap.size = w.heap.size + 1 by simp] at this⟩
 have HP1 := am (Kd.C_below HP.out HB.out)
 have HL1 := am (Kd.C_below HL.out HB.out)
 clear HP HL
 obtain ⟨wa, hwa⟩ : ∃ wa, (w.alloc (.cells #[.slice A0_0 l0_0.length c0_0, .slice A0_1 l0_1.length c0_1, .int .i64 a0_2, .int .i64 a0_3, .int .i64 a0_4, .int .i64 a0_5, .int .i64 a0_6, .int .i64 a0_7, .int .i64 a0_8, .int .i64 a0_9, .int .i64 a0_10, .int .i64 a0_11, .int .i64 a0_12] 25)).alloc (.cells #[.int .i64 a] 3) = wa := ⟨_, rfl⟩
 obtain ⟨ba, hba⟩ : ∃ ba, w.heap.size + 1 = ba := ⟨_, rfl⟩
 obtain ⟨bx, hbx⟩ : ∃ bx, w.heap.size = bx := ⟨_, rfl⟩
 rw [hwa] at HB HO HA HP1 HL1 ⊢
 rw [hba] at HA ⊢
 rw [hbx] at HO
 have HX : Aside0 (w.heap.size = bx) := ⟨hbx⟩
 rw [show (Value.pointer (some ⟨w.heap.size, 0, none⟩) : Value) = .pointer (some ⟨bx, 0, none⟩) by rw [hbx]]
 clear hwa hba hbx
 obtain ⟨x0, x1, x2, x3, x4, x5, x6, x7, x8, x9, x10, x11, x12⟩ := cellsK13 HO.out
 go_wp2_with fail
 refine (plan_Dists.calls k A0_0 c0_0 l0_0 A0_1 c0_1 l0_1 a0_2 a0_3 a0_4 a0_5 a0_6 a0_7 a0_8 a0_9 a0_10 a0_11 a0_12 b d _ HP1.out HC.out.1 HL1.out HC.out.2 HD.out).mono ?_
 rintro e w1 ⟨v, rfl, ho, hb⟩
 obtain ⟨F, fc, rfl⟩ := Kd.R_slice ho
 have HF := am (Kd.R_reads' ho).2.2
 have HO1 := am ((hb.block bx (blk_lt HO.out)).trans HO.out)
 have HA1 := am ((hb.block ba (blk_lt HA.out)).trans HA.out)
 have HL2 := am (Kd.C_below HL1.out hb)
 have HB1 := am (below_step HB.out hb)
 clear ho hb x0 x1 x2 x3 x4 x5 x6 x7 x8 x9 x10 x11 x12 HP1 HL1 HO HA HB
 go_upto_region 2 with fail
 have HB2 := am (below_alloc HB1.out (Obj.cells #[.slice F d.length fc] 29))
 have HO2 : Aside0 ((w1.alloc (.cells #[.slice F d.length fc] 29)).cell? ⟨bx, 1, none⟩ = some (.slice A0_1 l0_1.length c0_1)) := ⟨(blk_cell (blk_alloc HO1.out _) 1).trans rfl⟩
 have HA2 : Aside0 ((w1.alloc (.cells #[.slice F d.length fc] 29)).heap[ba]? = some (.cells #[.int .i64 a] 3)) := ⟨blk_alloc HA1.out _⟩
 have HF2 : Aside0 ((w1.alloc (.cells #[.slice F d.length fc] 29)).heap[w1.heap.size]? = some (.cells #[.slice F d.length fc] 29)) := ⟨heap_alloc_new _ _⟩
 have HG2 := am (Kd.C_below HF.out (below_alloc (Below.refl w1.heap.size w1) (Obj.cells #[.slice F d.length fc] 29)))
 have HL3 := am (Kd.C_below HL2.out (below_alloc (Below.refl w1.heap.size w1) (Obj.cells #[.slice F d.length fc] 29)))
 clear HO1 HA1 HF HL2 HB1
 generalize w1.alloc (.cells #[.slice F d.length fc] 29) = w2 at *
 generalize w1.heap.size = bf at *
 have hcall := indexFuncOn (nearer d a) 28 #[.pointer (some ⟨ba, 0, none⟩), .pointer (some ⟨bf, 0, none⟩)] (entersT Tryd.func28 (by kernel_rfl) rfl) A0_1 c0_1 l0_1 w2 HL3.out HALL.out.2.2.2 (fun W x hx hW =>
  over1_walk d a F fc ba bf x W ((hW.cell (p := ⟨ba, 0, none⟩) (blk_lt HA2.out)).trans ((blk_cell HA2.out 0).trans rfl)) ((hW.cell (p := ⟨bf, 0, none⟩) (blk_lt HF2.out)).trans ((blk_cell HF2.out 0).trans rfl)) (Kd.C_below HG2.out hW) (Nat.lt_of_lt_of_le (blk_lt HA2.out) hW.size) (Nat.lt_of_lt_of_le (blk_lt HF2.out) hW.size) HALL.out.1 HALL.out.2.1 (HALL.out.2.2.1 x hx))
 rw [← HRR.out] at hcall
 have x1 := HO2.out
 go_wp2_with fail
 refine hcall.mono ?_
 rintro e w3 ⟨rfl, hb⟩
 have HB3 := am (below_step HB2.out hb)
 clear hb hcall x1
 go_wp2_with fail
 go_ret
 exact ⟨rfl, HB3.out⟩
set_option linter.unusedVariables false
set_option linter.unusedSimpArgs false
theorem over_total (A0 : Option Addr) (c0 : Nat) (P : List S43) (A1 : Option Addr) (c1 : Nat) (L : List S39) (a2 a3 a4 a5 a6 a7 a8 a9 a10 a11 a12 : Int) (a b : Int) (w : World) (hr0 : Kd.C k43 w A0 P.length P) (hc0 : P.length ≤ c0) (hr1 : Kd.C k39 w A1 L.length L) (hc1 : L.length ≤ c1) (hN : netsB P L = true) (ha0 : 0 ≤ a) (ha1 : a < P.length) (hb0 : 0 ≤ b) (hb1 : b < P.length) :
  Calls Tryd.prog 19 #[.agg #[.slice A0 P.length c0, .slice A1 L.length c1, .int .i64 a2, .int .i64 a3, .int .i64 a4, .int .i64 a5, .int .i64 a6, .int .i64 a7, .int .i64 a8, .int .i64 a9, .int .i64 a10, .int .i64 a11, .int .i64 a12], .int .i64 a, .int .i64 b] w fun e w' => e = .returned (.int .i64 (findI (nearer (Hops.far (ends L) P.length b.toNat) a) L)) ∧ Below w.heap.size w w' := by
 have hn := (netsB_iff P L).1 hN
 have hI := links_in hn.2.1
 have hL10 := hn.2.1.1
 obtain ⟨k, hk⟩ := (dists_ev P L a2 a3 a4 a5 a6 a7 a8 a9 a10 a11 a12 b hn.1.2.1 (by omega) hI hb0 hb1).some_
 refine over_walk k A0 c0 P A1 c1 L a2 a3 a4 a5 a6 a7 a8 a9 a10 a11 a12 a b _ w hr0 hc0 hr1 hc1 hk ha0 (by rw [Hops.far_len]; exact ha1) (fun x hx => ?_) (by omega)
 rw [Hops.far_len]
 obtain ⟨i, hi, rfl⟩ := List.getElem_of_mem hx
 have e : rd_T39 L (i : Int) = L[i] := by simp [rd_T39, List.getD_eq_getElem?_getD, hi]
 have h := hI i (by omega) (by omega)
 rw [e] at h
 unfold acr
 split
 ·exact h.2.2
 ·split
  ·exact h.1.2
  ·omega
end Go.Proofs.YtbefbhghmommhaaDoor.MWo
namespace Go.Proofs.YtbefbhghmommhaaDoor.MWo
open Go.RowKit Go.Proofs.YtbefbhghmommhaaDoorW.PrintWords Go.Proofs.YtbefbhghmommhaaDoorW.PrintLast Go.Proofs.YtbefbhghmommhaaDoorW.PrintMore
attribute [local go_sem] mp_u32s mp_u32m mp_u8s mp_u8m max2_int min2_int max_two min_two max_three min_three max_four min_four
set_option linter.unusedVariables false
set_option linter.unusedSimpArgs false
def hops_Over.f (l0_0 : List S43) (l0_1 : List S39) (a0_2 a0_3 a0_4 a0_5 a0_6 a0_7 a0_8 a0_9 a0_10 a0_11 a0_12 : Int) (a1 : Int) (a2 : Int) : Option Int := if netsB l0_0 l0_1 = true ∧ (0 ≤ a1 ∧ a1 < (l0_0.length : Int)) ∧ (0 ≤ a2 ∧ a2 < (l0_0.length : Int)) then some (findI (nearer (Hops.far (ends l0_1) l0_0.length a2.toNat) a1) l0_1) else none
theorem hops_Over.calls (A0_0 : Option Addr) (c0_0 : Nat) (l0_0 : List S43) (A0_1 : Option Addr) (c0_1 : Nat) (l0_1 : List S39) (a0_2 a0_3 a0_4 a0_5 a0_6 a0_7 a0_8 a0_9 a0_10 a0_11 a0_12 : Int) (a1 : Int) (a2 : Int) (r : Int) (w : World) (hr0_0 : Kd.C k43 w A0_0 l0_0.length l0_0) (hc0_0 : l0_0.length ≤ c0_0) (hr0_1 : Kd.C k39 w A0_1 l0_1.length l0_1) (hc0_1 : l0_1.length ≤ c0_1) (h : hops_Over.f l0_0 l0_1 a0_2 a0_3 a0_4 a0_5 a0_6 a0_7 a0_8 a0_9 a0_10 a0_11 a0_12 a1 a2 = some r) :
  Calls Tryd.prog 19 #[.agg #[.slice A0_0 l0_0.length c0_0, .slice A0_1 l0_1.length c0_1, .int .i64 a0_2, .int .i64 a0_3, .int .i64 a0_4, .int .i64 a0_5, .int .i64 a0_6, .int .i64 a0_7, .int .i64 a0_8, .int .i64 a0_9, .int .i64 a0_10, .int .i64 a0_11, .int .i64 a0_12], .int .i64 a1, .int .i64 a2] w fun e w' => e = .returned (.int .i64 r) ∧ Below w.heap.size w w' := by
 unfold hops_Over.f at h
 split at h
 ·rename_i hc
  injection h with h
  subst h
  exact over_total A0_0 c0_0 l0_0 A0_1 c0_1 l0_1 a0_2 a0_3 a0_4 a0_5 a0_6 a0_7 a0_8 a0_9 a0_10 a0_11 a0_12 a1 a2 w hr0_0 hc0_0 hr0_1 hc0_1 hc.1 hc.2.1.1 hc.2.1.2 hc.2.2.1 hc.2.2.2
 ·cases h
def hops_Next.f (l0_0 : List (S43)) (l0_1 : List (S39)) (a0_2 : Int) (a0_3 : Int) (a0_4 : Int) (a0_5 : Int) (a0_6 : Int) (a0_7 : Int) (a0_8 : Int) (a0_9 : Int) (a0_10 : Int) (a0_11 : Int) (a0_12 : Int) (a1 : Int) (a2 : Int) : Option (Int) := (hops_right.f l0_0 l0_1 a0_2 a0_3 a0_4 a0_5 a0_6 a0_7 a0_8 a0_9 a0_10 a0_11 a0_12 a1 a2).bind fun t139 => (if t139 = true then ((hops_Over.f l0_0 l0_1 a0_2 a0_3 a0_4 a0_5 a0_6 a0_7 a0_8 a0_9 a0_10 a0_11 a0_12 a1 a2).bind fun t140 => (some t140)) else (some (-1)))
set_option maxHeartbeats 8000000 in
set_option maxRecDepth 100000 in
theorem hops_Next.calls (A0_0 : Option Addr) (c0_0 : Nat) (l0_0 : List (S43)) (A0_1 : Option Addr) (c0_1 : Nat) (l0_1 : List (S39)) (a0_2 : Int) (a0_3 : Int) (a0_4 : Int) (a0_5 : Int) (a0_6 : Int) (a0_7 : Int) (a0_8 : Int) (a0_9 : Int) (a0_10 : Int) (a0_11 : Int) (a0_12 : Int) (a1 : Int) (a2 : Int) (r : Int) (w : World) (hr0_0 : Kd.C k43 w A0_0 l0_0.length l0_0) (hc0_0 : l0_0.length ≤ c0_0) (hr0_1 : Kd.C k39 w A0_1 l0_1.length l0_1) (hc0_1 : l0_1.length ≤ c0_1) (h : hops_Next.f l0_0 l0_1 a0_2 a0_3 a0_4 a0_5 a0_6 a0_7 a0_8 a0_9 a0_10 a0_11 a0_12 a1 a2 = some r) (hG : Gv w) :
  Calls Tryd.prog 7 #[.agg #[.slice A0_0 l0_0.length c0_0, .slice A0_1 l0_1.length c0_1, .int .i64 a0_2, .int .i64 a0_3, .int .i64 a0_4, .int .i64 a0_5, .int .i64 a0_6, .int .i64 a0_7, .int .i64 a0_8, .int .i64 a0_9, .int .i64 a0_10, .int .i64 a0_11, .int .i64 a0_12], .int .i64 a1, .int .i64 a2] w fun e w' => e = .returned (.int .i64 r) ∧ Below w.heap.size w w' := by
 have HG := am hG
 clear hG
 have hu25 := Tryd.underlying25
 have HR0_0 := am hr0_0
 have HC0_0 := am hc0_0
 clear hr0_0 hc0_0
 have HR0_1 := am hr0_1
 have HC0_1 := am hc0_1
 clear hr0_1 hc0_1
 have HB := am (Below.refl w.heap.size w)
 have H : ((hops_right.f l0_0 l0_1 a0_2 a0_3 a0_4 a0_5 a0_6 a0_7 a0_8 a0_9 a0_10 a0_11 a0_12 a1 a2).bind fun t139 => (if t139 = true then ((hops_Over.f l0_0 l0_1 a0_2 a0_3 a0_4 a0_5 a0_6 a0_7 a0_8 a0_9 a0_10 a0_11 a0_12 a1 a2).bind fun t140 => (some t140)) else (some (-1)))) = some r := h
 clear h
 replace H := bS H
 obtain ⟨t139, A40, H⟩ := H
 replace H : (if t139 = true then ((hops_Over.f l0_0 l0_1 a0_2 a0_3 a0_4 a0_5 a0_6 a0_7 a0_8 a0_9 a0_10 a0_11 a0_12 a1 a2).bind fun t140 => (some t140)) else (some (-1))) = some r := H
 have A4 := am A40
 clear A40
 by_cases c5 : t139 = true
 ·subst c5
  have H1 : ((hops_Over.f l0_0 l0_1 a0_2 a0_3 a0_4 a0_5 a0_6 a0_7 a0_8 a0_9 a0_10 a0_11 a0_12 a1 a2).bind fun t140 => (some t140)) = some r := by rw [if_pos rfl] at H; exact H
  clear H
  have H := H1
  clear H1
  replace H := bS H
  obtain ⟨t140, A60, H⟩ := H
  replace H : (some t140) = some r := H
  have A6 := am A60
  clear A60
  obtain rfl := Option.some.inj H
  go_enter Tryd.func7, Tryd.ntmps7
  go_wp2_with (first | ((with_reducible refine gate_dst (N := 3) rfl ?_); refine bxe 3 #[.slice A0_0 l0_0.length c0_0, .slice A0_1 l0_1.length c0_1, .int .i64 a0_2, .int .i64 a0_3, .int .i64 a0_4, .int .i64 a0_5, .int .i64 a0_6, .int .i64 a0_7, .int .i64 a0_8, .int .i64 a0_9, .int .i64 a0_10, .int .i64 a0_11, .int .i64 a0_12] 25 ?_; intro gb138 hg w7 hbox hb; have n0_ := am (below_step bl0 hb); have n1_ := am (hbox); have n2_ := am (gw0 hg); have n3_ := am (gw0 hg); clear HB; have HB := n0_; have BK138 := n1_; have GW138 := n2_; have GE138 := n3_; clear n0_ n1_ n2_ n3_; clear hb hbox hg; obtain ⟨hcz8_0, hcz8_1, hcz8_2, hcz8_3, hcz8_4, hcz8_5, hcz8_6, hcz8_7, hcz8_8, hcz8_9, hcz8_10, hcz8_11, hcz8_12⟩ := cellsK13 BK138.out; obtain ⟨hfz8_0, hfz8_1, hfz8_2, hfz8_3, hfz8_4, hfz8_5, hfz8_6, hfz8_7, hfz8_8, hfz8_9, hfz8_10, hfz8_11, hfz8_12⟩ := frozK13 BK138.out) | ((with_reducible refine gate_callee (f := 15) rfl ?_); refine goesL_ (some 10) rfl rfl Tryd.func15 (by kernel_rfl) rfl #[.agg #[.slice A0_0 l0_0.length c0_0, .slice A0_1 l0_1.length c0_1, .int .i64 a0_2, .int .i64 a0_3, .int .i64 a0_4, .int .i64 a0_5, .int .i64 a0_6, .int .i64 a0_7, .int .i64 a0_8, .int .i64 a0_9, .int .i64 a0_10, .int .i64 a0_11, .int .i64 a0_12], .int .i64 a1, .int .i64 a2] rfl lm ?_; (with_reducible refine (hops_right.calls _ _ l0_0 _ _ l0_1 a0_2 a0_3 a0_4 a0_5 a0_6 a0_7 a0_8 a0_9 a0_10 a0_11 a0_12 a1 a2 true _ ?side1 ?side2 ?side3 ?side4 A4.out (Gv.below (k := 0) HG.out (bl1 GE138))).mono ?_); (case side1 => exact kc HR0_0); (case side2 => exact HC0_0.out); (case side3 => exact kc HR0_1); (case side4 => exact HC0_1.out); rintro e w9 ⟨rfl, hb⟩; refine ⟨_, rfl, ?_⟩; have n0_ := am (blk_below (bk BK138) hb); have n1_ := am (below_step (bl1 GE138) hb); clear BK138; clear HB; have BK138 := n0_; have HB := n1_; clear n0_ n1_; (try clear hb); (try clear hb2); (try clear hk); (try clear hi); obtain ⟨hcz10_0, hcz10_1, hcz10_2, hcz10_3, hcz10_4, hcz10_5, hcz10_6, hcz10_7, hcz10_8, hcz10_9, hcz10_10, hcz10_11, hcz10_12⟩ := cellsK13 BK138.out; obtain ⟨hfz10_0, hfz10_1, hfz10_2, hfz10_3, hfz10_4, hfz10_5, hfz10_6, hfz10_7, hfz10_8, hfz10_9, hfz10_10, hfz10_11, hfz10_12⟩ := frozK13 BK138.out) | ((with_reducible refine gate_callee (f := 19) rfl ?_); refine goesL_ (some 15) rfl rfl Tryd.func19 (by kernel_rfl) rfl #[.agg #[.slice A0_0 l0_0.length c0_0, .slice A0_1 l0_1.length c0_1, .int .i64 a0_2, .int .i64 a0_3, .int .i64 a0_4, .int .i64 a0_5, .int .i64 a0_6, .int .i64 a0_7, .int .i64 a0_8, .int .i64 a0_9, .int .i64 a0_10, .int .i64 a0_11, .int .i64 a0_12], .int .i64 a1, .int .i64 a2] rfl lm ?_; (with_reducible refine (hops_Over.calls _ _ l0_0 _ _ l0_1 a0_2 a0_3 a0_4 a0_5 a0_6 a0_7 a0_8 a0_9 a0_10 a0_11 a0_12 a1 a2 t140 _ ?side1 ?side2 ?side3 ?side4 A6.out).mono ?_); (case side1 => exact kc HR0_0); (case side2 => exact HC0_0.out); (case side3 => exact kc HR0_1); (case side4 => exact HC0_1.out); rintro e w11 ⟨rfl, hb⟩; refine ⟨_, rfl, ?_⟩; have n0_ := am (blk_below (bk BK138) hb); have n1_ := am (below_step (bl1 GE138) hb); clear BK138; clear HB; have BK138 := n0_; have HB := n1_; clear n0_ n1_; (try clear hb); (try clear hb2); (try clear hk); (try clear hi)))
  go_ret
  exact ⟨ew, bl1 GE138⟩
 ·replace c5 := Bool.eq_false_iff.mpr c5
  subst c5
  have H1 : (some (-1)) = some r := by rw [if_neg (show ¬ (false = true) by decide)] at H; exact H
  clear H
  have H := H1
  clear H1
  obtain rfl := Option.some.inj H
  go_enter Tryd.func7, Tryd.ntmps7
  go_wp2_with (first | ((with_reducible refine gate_dst (N := 3) rfl ?_); refine bxe 3 #[.slice A0_0 l0_0.length c0_0, .slice A0_1 l0_1.length c0_1, .int .i64 a0_2, .int .i64 a0_3, .int .i64 a0_4, .int .i64 a0_5, .int .i64 a0_6, .int .i64 a0_7, .int .i64 a0_8, .int .i64 a0_9, .int .i64 a0_10, .int .i64 a0_11, .int .i64 a0_12] 25 ?_; intro gb138 hg w12 hbox hb; have n0_ := am (below_step bl0 hb); have n1_ := am (hbox); have n2_ := am (gw0 hg); have n3_ := am (gw0 hg); clear HB; have HB := n0_; have BK138 := n1_; have GW138 := n2_; have GE138 := n3_; clear n0_ n1_ n2_ n3_; clear hb hbox hg; obtain ⟨hcz13_0, hcz13_1, hcz13_2, hcz13_3, hcz13_4, hcz13_5, hcz13_6, hcz13_7, hcz13_8, hcz13_9, hcz13_10, hcz13_11, hcz13_12⟩ := cellsK13 BK138.out; obtain ⟨hfz13_0, hfz13_1, hfz13_2, hfz13_3, hfz13_4, hfz13_5, hfz13_6, hfz13_7, hfz13_8, hfz13_9, hfz13_10, hfz13_11, hfz13_12⟩ := frozK13 BK138.out) | ((with_reducible refine gate_callee (f := 15) rfl ?_); refine goesL_ (some 10) rfl rfl Tryd.func15 (by kernel_rfl) rfl #[.agg #[.slice A0_0 l0_0.length c0_0, .slice A0_1 l0_1.length c0_1, .int .i64 a0_2, .int .i64 a0_3, .int .i64 a0_4, .int .i64 a0_5, .int .i64 a0_6, .int .i64 a0_7, .int .i64 a0_8, .int .i64 a0_9, .int .i64 a0_10, .int .i64 a0_11, .int .i64 a0_12], .int .i64 a1, .int .i64 a2] rfl lm ?_; (with_reducible refine (hops_right.calls _ _ l0_0 _ _ l0_1 a0_2 a0_3 a0_4 a0_5 a0_6 a0_7 a0_8 a0_9 a0_10 a0_11 a0_12 a1 a2 false _ ?side1 ?side2 ?side3 ?side4 A4.out (Gv.below (k := 0) HG.out (bl1 GE138))).mono ?_); (case side1 => exact kc HR0_0); (case side2 => exact HC0_0.out); (case side3 => exact kc HR0_1); (case side4 => exact HC0_1.out); rintro e w14 ⟨rfl, hb⟩; refine ⟨_, rfl, ?_⟩; have n0_ := am (blk_below (bk BK138) hb); have n1_ := am (below_step (bl1 GE138) hb); clear BK138; clear HB; have BK138 := n0_; have HB := n1_; clear n0_ n1_; (try clear hb); (try clear hb2); (try clear hk); (try clear hi)))
  go_ret
  exact ⟨ew, bl1 GE138⟩
end Go.Proofs.YtbefbhghmommhaaDoor.MWo
