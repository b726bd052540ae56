/- Texts of this claim, laid together by a program (wip/g/merge5.py): HPc, HPk2, HNc, HOa, MWox33, MWox34, MWox30, MWox31, MWox32. -/
import Derived.Test.YtbefbhghmommhaaGreatDoorZWr10
import Derived.Test.YtbefbhghmommhaaGreatDoorZWr11
import Derived.Test.YtbefbhghmommhaaGreatDoorZWr4
set_option linter.unusedVariables false
set_option linter.unusedSimpArgs false
namespace Go.Proofs.YtbefbhghmommhaaGreatDoor.MWo
open Go.RowKit Go.Proofs.YtbefbhghmommhaaGreatDoorW.PrintWords Go.Proofs.YtbefbhghmommhaaGreatDoorW.PrintLast Go.Proofs.YtbefbhghmommhaaGreatDoorW.PrintMore
def netsOk (P : List S68) (L : List S71) : Prop := partsOk P ∧ linksOk P L ∧ ∀ x, x ∈ Hops.far (ends L) P.length 0 → 0 ≤ x
theorem links_in {P : List S68} {L : List S71} (h : linksOk P L) : InR P.length L := by
 intro i h0 h1
 have := h.2 i h0 h1
 unfold linkC at this
 simp only [Bool.and_eq_true, decide_eq_true_eq] at this
 exact ⟨this.1, this.2.1⟩
theorem partB_iff {p : S68} : partB p = true ↔ PartOk p := by
 unfold partB PartOk
 simp only [Bool.and_eq_true, decide_eq_true_eq]
def netsB (P : List S68) (L : List S71) : Bool :=
 decide (1 ≤ P.length) && (decide (P.length ≤ 6) && ((List.range P.length).all (fun i => partB (rd_T68 P i)) && (decide (L.length ≤ 10) && ((List.range L.length).all (fun i => linkC P (L.take i) (rd_T71 L i)) && (Hops.far (ends L) P.length 0).all fun x => decide (0 ≤ x)))))
theorem netsB_iff (P : List S68) (L : List S71) : netsB P L = true ↔ netsOk P L := by
 unfold netsB netsOk partsOk linksOk
 simp only [Bool.and_eq_true, decide_eq_true_eq, List.all_eq_true, List.mem_range]
 constructor
 ·rintro ⟨h1, h2, h3, h4, h5, h6⟩
  refine ⟨⟨h1, h2, fun i h0 hi => ?_⟩, ⟨h4, fun i h0 hi => ?_⟩, h6⟩
  ·have := h3 i.toNat (by omega)
   rw [Int.toNat_of_nonneg h0] at this
   exact partB_iff.1 this
  ·have := h5 i.toNat (by omega)
   rw [Int.toNat_of_nonneg h0] at this
   exact this
 ·rintro ⟨⟨h1, h2, h3⟩, ⟨h4, h5⟩, h6⟩
  refine ⟨h1, h2, fun i hi => partB_iff.2 (h3 i (by omega) (by omega)), h4, fun i hi => ?_, h6⟩
  have := h5 (i : Int) (by omega) (by omega)
  simpa using this
set_option maxHeartbeats 4000000 in
set_option maxRecDepth 4000 in
theorem check_any (A0 : Option Addr) (c0 : Nat) (P : List S68) (A1 : Option Addr) (c1 : Nat) (L : List S71) (a2 a3 a4 a5 a6 a7 a8 a9 a10 a11 a12 : Int) (w : World) (hr0 : Kd.C k68 w A0 P.length P) (hc0 : P.length ≤ c0) (hr1 : Kd.C k71 w A1 L.length L) (hc1 : L.length ≤ c1) (hP : P.length ≤ 1000) (hL : L.length ≤ 1000) :
  Calls Tryz.prog 86 #[.agg #[.slice A0 P.length c0, .slice A1 L.length c1, .int .i64 a2, .int .i64 a3, .int .i64 a4, .int .i64 a5, .int .i64 a6, .int .i64 a7, .int .i64 a8, .int .i64 a9, .int .i64 a10, .int .i64 a11, .int .i64 a12]] w fun ev w' => ∃ v e ea, ev = .returned v ∧ Er w' w.heap.size v e ea ∧ (e = 0 ↔ netsOk P L) ∧ Below w.heap.size w w' := by
 have HR0 := am hr0
 have HR1 := am hr1
 have HC0 := am hc0
 have HC1 := am hc1
 have HL := am (And.intro hP hL)
 clear hr0 hr1 hc0 hc1 hP hL
 go_enter Tryz.func86, Tryz.ntmps86
 go_upto_region 1 with fail
 have HO1 : Aside0 ((w.alloc (.cells #[.slice A0 P.length c0, .slice A1 L.length c1, .int .i64 a2, .int .i64 a3, .int .i64 a4, .int .i64 a5, .int .i64 a6, .int .i64 a7, .int .i64 a8, .int .i64 a9, .int .i64 a10, .int .i64 a11, .int .i64 a12] 25)).heap[w.heap.size]? = some (.cells #[.slice A0 P.length c0, .slice A1 L.length c1, .int .i64 a2, .int .i64 a3, .int .i64 a4, .int .i64 a5, .int .i64 a6, .int .i64 a7, .int .i64 a8, .int .i64 a9, .int .i64 a10, .int .i64 a11, .int .i64 a12] 25)) := ⟨heap_alloc_new _ _⟩
 have HB1 := am (below_alloc (Below.refl w.heap.size w) (Obj.cells #[.slice A0 P.length c0, .slice A1 L.length c1, .int .i64 a2, .int .i64 a3, .int .i64 a4, .int .i64 a5, .int .i64 a6, .int .i64 a7, .int .i64 a8, .int .i64 a9, .int .i64 a10, .int .i64 a11, .int .i64 a12] 25))
 generalize w.alloc (Obj.cells #[.slice A0 P.length c0, .slice A1 L.length c1, .int .i64 a2, .int .i64 a3, .int .i64 a4, .int .i64 a5, .int .i64 a6, .int .i64 a7, .int .i64 a8, .int .i64 a9, .int .i64 a10, .int .i64 a11, .int .i64 a12] 25) = w1 at *
 obtain ⟨bx, hbx⟩ : ∃ bx, bx = w.heap.size := ⟨_, rfl⟩
 have HBX := am hbx
 have HZ : Aside0 (w.heap.size ≤ w.heap.size) := ⟨Nat.le_refl _⟩
 obtain ⟨base, hbase⟩ : ∃ base, base = w.heap.size := ⟨_, rfl⟩
 rw [← hbx]
 rw [← hbx] at HO1
 clear hbx hbase HZ base
 obtain ⟨x0, x1, x2, x3, x4, x5, x6, x7, x8, x9, x10, x11, x12⟩ := cellsK13 HO1.out
 go_wp2_with fail
 refine (parts_any A0 c0 P A1 c1 L a2 a3 a4 a5 a6 a7 a8 a9 a10 a11 a12 _ (Kd.C_below HR0.out HB1.out) HC0.out (Kd.C_below HR1.out HB1.out) HC1.out HL.out.1).mono ?_
 rintro ev w2 ⟨v, e, ea, rfl, hE, he, hb⟩
 have HE := am (hE.less (below_size HB1.out))
 have HI := am he
 clear hE he
 clear x0 x1 x2 x3 x4 x5 x6 x7 x8 x9 x10 x11 x12
 have HB2 := am (below_step HB1.out hb)
 have HO2 := am ((hb.block bx (blk_lt HO1.out)).trans HO1.out)
 clear hb
 rcases HE.out with ⟨he0, hv⟩ | hE
 rotate_left
 ·have HNE := am hE.1
  obtain ⟨q, hq, hv, hh⟩ := hE.2
  have HV := am hh
  have HN2 : Aside0 (¬ netsOk P L) := ⟨fun h => hE.1 (HI.out.2 h.1)⟩
  have HE9 := HE
  clear HE
  subst hv
  obtain ⟨x0, x1, x2, x3, x4, x5, x6, x7, x8, x9, x10, x11, x12⟩ := cellsK13 HO2.out
  go_wp2_with fail
  go_ret
  exact ⟨_, _, _, rfl, HE9.out, ⟨fun h => absurd h HNE.out, fun h => absurd h HN2.out⟩, HB2.out⟩
 subst he0
 subst hv
 have HP := am (HI.out.1 rfl)
 clear HE HI
 obtain ⟨x0, x1, x2, x3, x4, x5, x6, x7, x8, x9, x10, x11, x12⟩ := cellsK13 HO2.out
 go_wp2_with fail
 refine (links_any A0 c0 P A1 c1 L a2 a3 a4 a5 a6 a7 a8 a9 a10 a11 a12 _ (Kd.C_below HR0.out HB2.out) HC0.out (Kd.C_below HR1.out HB2.out) HC1.out HL.out.2).mono ?_
 rintro ev w3 ⟨v, e, ea, rfl, hE, he, hb⟩
 have HE := am (hE.less (below_size HB2.out))
 have HI := am he
 clear hE he
 clear x0 x1 x2 x3 x4 x5 x6 x7 x8 x9 x10 x11 x12
 have HB3 := am (below_step HB2.out hb)
 have HO3 := am ((hb.block bx (blk_lt HO2.out)).trans HO2.out)
 clear hb
 rcases HE.out with ⟨he0, hv⟩ | hE
 rotate_left
 ·have HNE := am hE.1
  obtain ⟨q, hq, hv, hh⟩ := hE.2
  have HV := am hh
  have HN2 : Aside0 (¬ netsOk P L) := ⟨fun h => hE.1 (HI.out.2 h.2.1)⟩
  have HE9 := HE
  clear HE
  subst hv
  obtain ⟨x0, x1, x2, x3, x4, x5, x6, x7, x8, x9, x10, x11, x12⟩ := cellsK13 HO3.out
  go_wp2_with fail
  go_ret
  exact ⟨_, _, _, rfl, HE9.out, ⟨fun h => absurd h HNE.out, fun h => absurd h HN2.out⟩, HB3.out⟩
 subst he0
 subst hv
 have HLk := am (HI.out.1 rfl)
 clear HE HI
 obtain ⟨d, hdd⟩ : ∃ d, Hops.far (ends L) P.length 0 = d := ⟨_, rfl⟩
 have hev := dists_ev P L a2 a3 a4 a5 a6 a7 a8 a9 a10 a11 a12 0 HP.out.2.1 (by have := HLk.out.1; omega) (links_in HLk.out) (Int.le_refl _) (by have := HP.out.1; omega)
 rw [show (0 : Int).toNat = 0 from rfl, hdd] at hev
 obtain ⟨k1, hd⟩ := hev.some_
 have hlen : d.length ≤ 1000 := by rw [← hdd, Hops.far_len]; have := HP.out.2.1; omega
 obtain ⟨i, hix, hi1, hi2⟩ := index_ev d hlen (-1)
 obtain ⟨k2, hi⟩ := hix.some_
 have HDD := am hdd
 have HI2 : Aside0 (i < 0 ↔ ∀ x, x ∈ d → 0 ≤ x) := ⟨by
  rw [hi2]
  constructor
  ·intro h x hx
   have h1 := h x hx
   have h2 := Hops.far_low (ends L) P.length 0 x (by rw [hdd]; exact hx)
   omega
  ·intro h x hx
   have := h x hx
   omega⟩
 have HDs := am hd
 have HIx := am hi
 clear hd hi hdd hev hlen hix hi1 hi2
 obtain ⟨x0, x1, x2, x3, x4, x5, x6, x7, x8, x9, x10, x11, x12⟩ := cellsK13 HO3.out
 go_wp2_with fail
 refine (plan_Dists.calls k1 A0 c0 P A1 c1 L a2 a3 a4 a5 a6 a7 a8 a9 a10 a11 a12 0 d _ (Kd.C_below HR0.out HB3.out) HC0.out (Kd.C_below HR1.out HB3.out) HC1.out HDs.out).mono ?_
 rintro e w4 ⟨v4, rfl, ho4, hb⟩
 obtain ⟨A4, c4, rfl⟩ := Kd.R_slice ho4
 have R4 := am ho4
 clear ho4
 clear x0 x1 x2 x3 x4 x5 x6 x7 x8 x9 x10 x11 x12
 have HB4 := am (below_step HB3.out hb)
 have HO4 := am ((hb.block bx (blk_lt HO3.out)).trans HO3.out)
 clear hb
 go_wp2_with fail
 refine (slices_Index_int_int.calls k2 A4 c4 d (-1) i _ (Kd.R_reads' R4.out).2.2 (Kd.R_reads' R4.out).2.1 HIx.out).mono ?_
 rintro e w5 ⟨rfl, hD⟩
 have hb := hD.below
 clear hD
 have HB5 := am (below_step HB4.out hb)
 clear hb
 by_cases hi : 0 ≤ i
 ·have hge : decide (0 ≤ i) = true := dT hi
  have HN2 : Aside0 (¬ netsOk P L) := ⟨fun h => by have h3 := h.2.2; rw [HDD.out] at h3; have := HI2.out.2 h3; omega⟩
  go_wp2_with (first | (go_at_call 96; refine (wrong_walk _ _ _ (by decide)).mono ?_; rintro ev w9 ⟨v9, rfl, hE9, hb9⟩))
  go_ret
  exact ⟨_, _, _, rfl, hE9.less (below_size HB5.out), ⟨fun h => absurd h (by decide), fun h => absurd h HN2.out⟩, below_step HB5.out hb9⟩
 ·have hge : decide (0 ≤ i) = false := dF hi
  have HF : Aside0 (netsOk P L) := ⟨HP.out, HLk.out, by rw [HDD.out]; exact HI2.out.1 (by omega)⟩
  go_wp2_with fail
  go_ret
  exact ⟨.nilIface, (0 : Int), (0 : Int), rfl, Or.inl ⟨rfl, rfl⟩, ⟨fun _ => HF.out, fun _ => rfl⟩, HB5.out⟩
set_option linter.unusedVariables false
set_option linter.unusedSimpArgs false
theorem as_made (q e ea : Int) (qn : Nat) (base : World) (w2 : World) (hg : w2.cell? ⟨0, 0, none⟩ = some (.iface 144 (.agg #[.pointer (some ⟨1, 108, none⟩)]))) (hg0 : 0 < w2.heap.size)
  (hb : Below base.heap.size base w2) (hh : w2.heap[qn]? = some (.cells #[.int .i64 ea, .iface 115 (.int .i64 e)] 117 (0, 0))) :
  Calls Tryz.prog 87 #[.iface 110 (.pointer (some ⟨qn, 0, none⟩)), .iface 112 (.pointer (some ⟨w2.heap.size, 0, none⟩))] (w2.alloc (.cells #[.pointer none] 110)) fun ev w3 => ev = .returned (.bool true) ∧ w3.cell? ⟨w2.heap.size, 0, none⟩ = some (.pointer (some ⟨qn, 0, none⟩)) ∧ w3.heap[qn]? = some (.cells #[.int .i64 ea, .iface 115 (.int .i64 e)] 117 (0, 0)) ∧ Below base.heap.size base w3 := by
 refine (as_hit ⟨qn, 0, none⟩ ⟨w2.heap.size, 0, none⟩ (.pointer none) (w2.alloc (.cells #[.pointer none] 110)) ((World.cell?_alloc_lt _ _ ⟨0, 0, none⟩ hg0).trans hg) ((blk_cell (heap_alloc_new _ _) 0).trans rfl) (blk_frozen (heap_alloc_new _ _) 0)).mono ?_
 rintro ev w3 ⟨rfl, hw⟩
 have hq := blk_lt hh
 refine ⟨rfl, ?_, ?_, ?_⟩
 ·rw [hw]
  exact World.cell?_setCell_same _ _ _ ((blk_cell (blk_alloc (blk_alloc (blk_alloc (blk_alloc (heap_alloc_new w2 (.cells #[.pointer none] 110)) _) _) _) _) 0).trans rfl)
 ·rw [hw]
  exact blk_far (blk_alloc (blk_alloc (blk_alloc (blk_alloc (blk_alloc hh _) _) _) _) _) (show qn ≠ w2.heap.size by omega) _
 ·rw [hw]
  exact below_set (below_alloc (below_alloc (below_alloc (below_alloc (below_alloc hb _) _) _) _) _) (below_size hb)
set_option maxHeartbeats 4000000 in
set_option maxRecDepth 4000 in
theorem Check_any (A0 : Option Addr) (c0 : Nat) (P : List S68) (A1 : Option Addr) (c1 : Nat) (L : List S71) (a2 a3 a4 a5 a6 a7 a8 a9 a10 a11 a12 : Int) (w : World) (hr0 : Kd.C k68 w A0 P.length P) (hc0 : P.length ≤ c0) (hr1 : Kd.C k71 w A1 L.length L) (hc1 : L.length ≤ c1) (hP : P.length ≤ 1000) (hL : L.length ≤ 1000) (hg : w.cell? ⟨0, 0, none⟩ = some (.iface 144 (.agg #[.pointer (some ⟨1, 108, none⟩)]))) :
  Calls Tryz.prog 77 #[.agg #[.slice A0 P.length c0, .slice A1 L.length c1, .int .i64 a2, .int .i64 a3, .int .i64 a4, .int .i64 a5, .int .i64 a6, .int .i64 a7, .int .i64 a8, .int .i64 a9, .int .i64 a10, .int .i64 a11, .int .i64 a12]] w fun ev w' => ∃ r m, ev = .returned (.tuple #[.int .i64 r, .int .i64 m]) ∧ (r = 0 ↔ netsOk P L) ∧ Below w.heap.size w w' := by
 have hc := fun (W : World) (hB : Below w.heap.size w W) => check_any A0 c0 P A1 c1 L a2 a3 a4 a5 a6 a7 a8 a9 a10 a11 a12 W (Kd.C_below hr0 hB) hc0 (Kd.C_below hr1 hB) hc1 hP hL
 have HC := am hc
 have HG := am hg
 clear hc hr0 hr1 hc0 hc1 hP hL hg
 go_enter Tryz.func77, Tryz.ntmps77
 have HB1 := am (below_alloc (Below.refl w.heap.size w) (Obj.cells #[.slice A0 P.length c0, .slice A1 L.length c1, .int .i64 a2, .int .i64 a3, .int .i64 a4, .int .i64 a5, .int .i64 a6, .int .i64 a7, .int .i64 a8, .int .i64 a9, .int .i64 a10, .int .i64 a11, .int .i64 a12] 25))
 go_wp2_with fail
 refine (HC.out _ HB1.out).mono ?_
 rintro ev w2 ⟨v, e, ea, rfl, hE, he, hb⟩
 have HB2 := am (below_step HB1.out hb)
 have HI := am he
 have HE := am hE
 clear hb he hE
 rcases HE.out with ⟨he0, hv⟩ | ⟨he0, q, hq, hv, hh⟩
 ·subst he0
  subst hv
  have HF := am (HI.out.1 rfl)
  go_wp2_with fail
  refine (as_nil _ _).mono ?_
  rintro e w3 ⟨rfl, rfl⟩
  go_wp2_with fail
  go_ret2
  exact ⟨0, 0, rfl, ⟨fun _ => HF.out, fun _ => rfl⟩, by repeat (first | exact HB2.out | apply below_alloc)⟩
 ·subst hv
  have HN := am (show ¬ netsOk P L from fun h => he0 (HI.out.2 h))
  have HH := am hh
  have hg2 := (HB2.out.cell (World.block_lt_of_cell? w _ HG.out)).trans HG.out
  have HA := am (as_made 0 e ea q w w2 hg2 (World.block_lt_of_cell? w2 _ hg2) HB2.out hh)
  clear HE HI he0 hq hh hg2
  go_wp2_with fail
  refine HA.out.mono ?_
  rintro ev w3 ⟨rfl, hf, hq3, hb3⟩
  have HB3 := am hb3
  have HQ3 := am hq3
  clear hb3 hq3 HA
  go_wp2_with fail
  have HQ4 := am (blk_alloc HQ3.out (.cells #[.int .i64 7, .int .i64 8, .int .i64 9, .int .i64 10, .int .i64 11, .int .i64 12] 99 (0, 0)))
  have HB4 := am (below_alloc HB3.out (.cells #[.int .i64 7, .int .i64 8, .int .i64 9, .int .i64 10, .int .i64 11, .int .i64 12] 99 (0, 0)))
  have hf4 := (World.cell?_alloc_lt w3 (.cells #[.int .i64 7, .int .i64 8, .int .i64 9, .int .i64 10, .int .i64 11, .int .i64 12] 99 (0, 0)) ⟨w2.heap.size, 0, none⟩ (World.block_lt_of_cell? _ _ hf)).trans hf
  have hn4 := heap_alloc_new w3 (.cells #[.int .i64 7, .int .i64 8, .int .i64 9, .int .i64 10, .int .i64 11, .int .i64 12] 99 (0, 0))
  have hz0 : (w3.alloc (.cells #[.int .i64 7, .int .i64 8, .int .i64 9, .int .i64 10, .int .i64 11, .int .i64 12] 99 (0, 0))).cell? ⟨w3.heap.size, 0, none⟩ = some (.int .i64 7) := (blk_cell hn4 0).trans rfl
  have hz1 : (w3.alloc (.cells #[.int .i64 7, .int .i64 8, .int .i64 9, .int .i64 10, .int .i64 11, .int .i64 12] 99 (0, 0))).cell? ⟨w3.heap.size, 1, none⟩ = some (.int .i64 8) := (blk_cell hn4 1).trans rfl
  have hz2 : (w3.alloc (.cells #[.int .i64 7, .int .i64 8, .int .i64 9, .int .i64 10, .int .i64 11, .int .i64 12] 99 (0, 0))).cell? ⟨w3.heap.size, 2, none⟩ = some (.int .i64 9) := (blk_cell hn4 2).trans rfl
  have hz3 : (w3.alloc (.cells #[.int .i64 7, .int .i64 8, .int .i64 9, .int .i64 10, .int .i64 11, .int .i64 12] 99 (0, 0))).cell? ⟨w3.heap.size, 3, none⟩ = some (.int .i64 10) := (blk_cell hn4 3).trans rfl
  have hz4 : (w3.alloc (.cells #[.int .i64 7, .int .i64 8, .int .i64 9, .int .i64 10, .int .i64 11, .int .i64 12] 99 (0, 0))).cell? ⟨w3.heap.size, 4, none⟩ = some (.int .i64 11) := (blk_cell hn4 4).trans rfl
  have hz5 : (w3.alloc (.cells #[.int .i64 7, .int .i64 8, .int .i64 9, .int .i64 10, .int .i64 11, .int .i64 12] 99 (0, 0))).cell? ⟨w3.heap.size, 5, none⟩ = some (.int .i64 12) := (blk_cell hn4 5).trans rfl
  have hq0 : (w3.alloc (.cells #[.int .i64 7, .int .i64 8, .int .i64 9, .int .i64 10, .int .i64 11, .int .i64 12] 99 (0, 0))).cell? ⟨q, 0, none⟩ = some (.int .i64 ea) := (blk_cell HQ4.out 0).trans rfl
  clear hf hn4
  generalize w3.alloc (Obj.cells #[.int .i64 7, .int .i64 8, .int .i64 9, .int .i64 10, .int .i64 11, .int .i64 12] 99) = w4 at *
  generalize w3.heap.size = bl at *
  refine wp_loop_rounds 7 ?_
  rw [rounds_succ]
  go_wp2_with (first | (go_at_call 88; refine (eis_walk q e ea _ _ HQ4.out).mono ?_; rintro ev w5 ⟨rfl, rfl⟩))
  ·refine start_ (n := 7) (S := fun w' => w'.cell? ⟨w2.heap.size, 0, none⟩ = some (.pointer (some ⟨q, 0, none⟩)) ∧ w'.cell? ⟨q, 0, none⟩ = some (.int .i64 ea)) (ds := []) #[false, false, false, false, false, false, false] (by kernel_rfl) rfl rfl ⟨hf4, hq0⟩ (fun hHeld => ?_)
   refine pu 0 24 ?_
   refine tk2 1 25 ?_
   refine pu 2 26 ?_
   refine pu 3 27 ?_
   refine tk2 4 28 ?_
   refine pu 5 2 ?_
   refine pu 6 3 ?_
   refine done_ (by kernel_rfl) ?_
   go_wp2_with fail
   go_ret2
   exact ⟨_, _, rfl, ⟨fun h => absurd h (by decide), fun h => absurd h HN.out⟩, by repeat (first | exact HB4.out | apply below_drew1 | apply below_alloc)⟩
  rw [rounds_succ]
  go_wp2_with (first | (go_at_call 88; refine (eis_walk q e ea _ _ HQ4.out).mono ?_; rintro ev w5 ⟨rfl, rfl⟩))
  ·refine start_ (n := 7) (S := fun w' => w'.cell? ⟨w2.heap.size, 0, none⟩ = some (.pointer (some ⟨q, 0, none⟩)) ∧ w'.cell? ⟨q, 0, none⟩ = some (.int .i64 ea)) (ds := []) #[false, false, false, false, false, false, false] (by kernel_rfl) rfl rfl ⟨hf4, hq0⟩ (fun hHeld => ?_)
   refine pu 0 24 ?_
   refine tk2 1 25 ?_
   refine pu 2 26 ?_
   refine pu 3 27 ?_
   refine tk2 4 28 ?_
   refine pu 5 2 ?_
   refine pu 6 3 ?_
   refine done_ (by kernel_rfl) ?_
   go_wp2_with fail
   go_ret2
   exact ⟨_, _, rfl, ⟨fun h => absurd h (by decide), fun h => absurd h HN.out⟩, by repeat (first | exact HB4.out | apply below_drew1 | apply below_alloc)⟩
  rw [rounds_succ]
  go_wp2_with (first | (go_at_call 88; refine (eis_walk q e ea _ _ HQ4.out).mono ?_; rintro ev w5 ⟨rfl, rfl⟩))
  ·refine start_ (n := 7) (S := fun w' => w'.cell? ⟨w2.heap.size, 0, none⟩ = some (.pointer (some ⟨q, 0, none⟩)) ∧ w'.cell? ⟨q, 0, none⟩ = some (.int .i64 ea)) (ds := []) #[false, false, false, false, false, false, false] (by kernel_rfl) rfl rfl ⟨hf4, hq0⟩ (fun hHeld => ?_)
   refine pu 0 24 ?_
   refine tk2 1 25 ?_
   refine pu 2 26 ?_
   refine pu 3 27 ?_
   refine tk2 4 28 ?_
   refine pu 5 2 ?_
   refine pu 6 3 ?_
   refine done_ (by kernel_rfl) ?_
   go_wp2_with fail
   go_ret2
   exact ⟨_, _, rfl, ⟨fun h => absurd h (by decide), fun h => absurd h HN.out⟩, by repeat (first | exact HB4.out | apply below_drew1 | apply below_alloc)⟩
  rw [rounds_succ]
  go_wp2_with (first | (go_at_call 88; refine (eis_walk q e ea _ _ HQ4.out).mono ?_; rintro ev w5 ⟨rfl, rfl⟩))
  ·refine start_ (n := 7) (S := fun w' => w'.cell? ⟨w2.heap.size, 0, none⟩ = some (.pointer (some ⟨q, 0, none⟩)) ∧ w'.cell? ⟨q, 0, none⟩ = some (.int .i64 ea)) (ds := []) #[false, false, false, false, false, false, false] (by kernel_rfl) rfl rfl ⟨hf4, hq0⟩ (fun hHeld => ?_)
   refine pu 0 24 ?_
   refine tk2 1 25 ?_
   refine pu 2 26 ?_
   refine pu 3 27 ?_
   refine tk2 4 28 ?_
   refine pu 5 2 ?_
   refine pu 6 3 ?_
   refine done_ (by kernel_rfl) ?_
   go_wp2_with fail
   go_ret2
   exact ⟨_, _, rfl, ⟨fun h => absurd h (by decide), fun h => absurd h HN.out⟩, by repeat (first | exact HB4.out | apply below_drew1 | apply below_alloc)⟩
  rw [rounds_succ]
  go_wp2_with (first | (go_at_call 88; refine (eis_walk q e ea _ _ HQ4.out).mono ?_; rintro ev w5 ⟨rfl, rfl⟩))
  ·refine start_ (n := 7) (S := fun w' => w'.cell? ⟨w2.heap.size, 0, none⟩ = some (.pointer (some ⟨q, 0, none⟩)) ∧ w'.cell? ⟨q, 0, none⟩ = some (.int .i64 ea)) (ds := []) #[false, false, false, false, false, false, false] (by kernel_rfl) rfl rfl ⟨hf4, hq0⟩ (fun hHeld => ?_)
   refine pu 0 24 ?_
   refine tk2 1 25 ?_
   refine pu 2 26 ?_
   refine pu 3 27 ?_
   refine tk2 4 28 ?_
   refine pu 5 2 ?_
   refine pu 6 3 ?_
   refine done_ (by kernel_rfl) ?_
   go_wp2_with fail
   go_ret2
   exact ⟨_, _, rfl, ⟨fun h => absurd h (by decide), fun h => absurd h HN.out⟩, by repeat (first | exact HB4.out | apply below_drew1 | apply below_alloc)⟩
  rw [rounds_succ]
  go_wp2_with (first | (go_at_call 88; refine (eis_walk q e ea _ _ HQ4.out).mono ?_; rintro ev w5 ⟨rfl, rfl⟩))
  ·refine start_ (n := 7) (S := fun w' => w'.cell? ⟨w2.heap.size, 0, none⟩ = some (.pointer (some ⟨q, 0, none⟩)) ∧ w'.cell? ⟨q, 0, none⟩ = some (.int .i64 ea)) (ds := []) #[false, false, false, false, false, false, false] (by kernel_rfl) rfl rfl ⟨hf4, hq0⟩ (fun hHeld => ?_)
   refine pu 0 24 ?_
   refine tk2 1 25 ?_
   refine pu 2 26 ?_
   refine pu 3 27 ?_
   refine tk2 4 28 ?_
   refine pu 5 2 ?_
   refine pu 6 3 ?_
   refine done_ (by kernel_rfl) ?_
   go_wp2_with fail
   go_ret2
   exact ⟨_, _, rfl, ⟨fun h => absurd h (by decide), fun h => absurd h HN.out⟩, by repeat (first | exact HB4.out | apply below_drew1 | apply below_alloc)⟩
  rw [rounds_succ]
  go_wp2_with fail
  refine start_ (n := 6) (S := fun w' => w'.cell? ⟨w2.heap.size, 0, none⟩ = some (.pointer (some ⟨q, 0, none⟩)) ∧ w'.cell? ⟨q, 0, none⟩ = some (.int .i64 ea)) (ds := []) #[false, false, false, false, false, false] (by kernel_rfl) rfl rfl ⟨hf4, hq0⟩ (fun hHeld => ?_)
  refine tk2 0 30 ?_
  refine pu 1 31 ?_
  refine pu 2 32 ?_
  refine tk2 3 33 ?_
  refine pu 4 2 ?_
  refine pu 5 3 ?_
  refine done_ (by kernel_rfl) ?_
  go_wp2_with fail
  go_ret2
  exact ⟨_, _, rfl, ⟨fun h => absurd h (by decide), fun h => absurd h HN.out⟩, by repeat (first | exact HB4.out | apply below_drew1 | apply below_alloc)⟩
theorem right_any (A0 : Option Addr) (c0 : Nat) (P : List S68) (A1 : Option Addr) (c1 : Nat) (L : List S71) (a2 a3 a4 a5 a6 a7 a8 a9 a10 a11 a12 : Int) (w : World) (hr0 : Kd.C k68 w A0 P.length P) (hc0 : P.length ≤ c0) (hr1 : Kd.C k71 w A1 L.length L) (hc1 : L.length ≤ c1) (hP : P.length ≤ 1000) (hL : L.length ≤ 1000) (hg : w.cell? ⟨0, 0, none⟩ = some (.iface 144 (.agg #[.pointer (some ⟨1, 108, none⟩)]))) :
  Calls Tryz.prog 64 #[.agg #[.slice A0 P.length c0, .slice A1 L.length c1, .int .i64 a2, .int .i64 a3, .int .i64 a4, .int .i64 a5, .int .i64 a6, .int .i64 a7, .int .i64 a8, .int .i64 a9, .int .i64 a10, .int .i64 a11, .int .i64 a12]] w fun ev w' => ∃ r : Bool, ev = .returned (.bool r) ∧ (r = true ↔ netsOk P L) ∧ Below w.heap.size w w' := by
 have hc := fun (W : World) (hB : Below w.heap.size w W) => Check_any A0 c0 P A1 c1 L a2 a3 a4 a5 a6 a7 a8 a9 a10 a11 a12 W (Kd.C_below hr0 hB) hc0 (Kd.C_below hr1 hB) hc1 hP hL ((hB.cell (World.block_lt_of_cell? w _ hg)).trans hg)
 have HC := am hc
 clear hc hr0 hr1 hc0 hc1 hP hL hg
 go_enter Tryz.func64, Tryz.ntmps64
 have HB1 := am (below_alloc (Below.refl w.heap.size w) (Obj.cells #[.slice A0 P.length c0, .slice A1 L.length c1, .int .i64 a2, .int .i64 a3, .int .i64 a4, .int .i64 a5, .int .i64 a6, .int .i64 a7, .int .i64 a8, .int .i64 a9, .int .i64 a10, .int .i64 a11, .int .i64 a12] 25))
 go_wp2_with fail
 refine (HC.out _ HB1.out).mono ?_
 rintro e w2 ⟨r, m, rfl, hI, hb⟩
 have HB2 := am (below_step HB1.out hb)
 have HI := am hI
 clear hb hI
 cases hr : (r == (0 : Int)) with
 | true =>
  have hN := HI.out.1 (eq_of_beq hr)
  have HN := am hN
  clear hN
  go_wp2_with fail
  go_ret
  exact ⟨true, rfl, ⟨fun _ => HN.out, fun _ => rfl⟩, HB2.out⟩
 | false =>
  have HN := am (show ¬ netsOk P L from fun h => (beq_eq_false_iff_ne.mp hr) (HI.out.2 h))
  go_wp2_with fail
  go_ret
  exact ⟨false, rfl, ⟨fun h => absurd h (by decide), fun h => absurd h HN.out⟩, HB2.out⟩
set_option maxRecDepth 100000
open Go.RowKit Go.Proofs.YtbefbhghmommhaaGreatDoorW.PrintWords Go.Proofs.YtbefbhghmommhaaGreatDoorW.PrintLast Go.Proofs.YtbefbhghmommhaaGreatDoorW.PrintMore Go.Proofs.YtbefbhghmommhaaGreatDoor.Evl
structure CellAt (w : World) (x : S37) (A : Option Addr) (c : Nat) (A3 : Option Addr) (c3 : Nat) : Prop where
 r0 : Kd.C k55 w A x.f0.length x.f0
 c0 : x.f0.length ≤ c
 r3 : Kd.C (Kd.int .i64) w A3 x.f1.f2.length x.f1.f2
 c3 : x.f1.f2.length ≤ c3
theorem CellAt.below {w w1 : World} {x : S37} {A : Option Addr} {c : Nat} {A3 : Option Addr} {c3 : Nat} (h : CellAt w x A c A3 c3) (k : Below w.heap.size w w1) : CellAt w1 x A c A3 c3 :=
 ⟨Kd.C_below h.r0 k, h.c0, Kd.C_below h.r3 k, h.c3⟩
structure NetAt (w : World) (P : List S68) (AP : Option Addr) (cP : Nat) (Q : List S71) (AQ : Option Addr) (cQ : Nat) : Prop where
 p : Kd.C k68 w AP P.length P
 cp : P.length ≤ cP
 q : Kd.C k71 w AQ Q.length Q
 cq : Q.length ≤ cQ
theorem NetAt.below {w w1 : World} {P : List S68} {AP : Option Addr} {cP : Nat} {Q : List S71} {AQ : Option Addr} {cQ : Nat} (h : NetAt w P AP cP Q AQ cQ) (k : Below w.heap.size w w1) : NetAt w1 P AP cP Q AQ cQ :=
 ⟨Kd.C_below h.p k, h.cp, Kd.C_below h.q k, h.cq⟩
def rangeOk (a2 a6 a7 a8 a9 : Int) : Prop := 1000 ≤ a2 ∧ a2 ≤ 1000000 ∧ 0 ≤ a6 ∧ a6 ≤ 500 ∧ 0 ≤ a7 ∧ a7 ≤ 400000 ∧ 1 ≤ a8 ∧ a8 ≤ 200 ∧ 0 ≤ a9 ∧ a9 ≤ 20
instance (a2 a6 a7 a8 a9 : Int) : Decidable (rangeOk a2 a6 a7 a8 a9) := by unfold rangeOk; infer_instance
def outV (a2 a6 a7 a8 a9 : Int) : Int := if a2 < 1000 ∨ 1000000 < a2 then 1 else if a6 < 0 ∨ 500 < a6 then 2 else if a7 < 0 ∨ 400000 < a7 then 3 else if a8 < 1 ∨ 200 < a8 then 4 else if a9 < 0 ∨ 20 < a9 then 5 else 0
theorem outV_ok (a2 a6 a7 a8 a9 : Int) : outV a2 a6 a7 a8 a9 = 0 ↔ rangeOk a2 a6 a7 a8 a9 := by
 unfold outV rangeOk
 constructor
 ·intro h
  repeat (split at h; · cases h)
  omega
 ·intro h
  rw [if_neg (by omega), if_neg (by omega), if_neg (by omega), if_neg (by omega), if_neg (by omega)]
set_option maxHeartbeats 4000000 in
theorem out_any (a2 a3 a4 a5 a6 a7 a8 a9 a10 a11 a12 : Int) (A0 A1 : Option Addr) (n0 n1 c0 c1 : Nat) (w : World) :
  Calls Tryz.prog 72 #[.agg #[.slice A0 n0 c0, .slice A1 n1 c1, .int .i64 a2, .int .i64 a3, .int .i64 a4, .int .i64 a5, .int .i64 a6, .int .i64 a7, .int .i64 a8, .int .i64 a9, .int .i64 a10, .int .i64 a11, .int .i64 a12]] w fun e w' => e = .returned (.int .i64 (outV a2 a6 a7 a8 a9)) ∧ Below w.heap.size w w' := by
 obtain ⟨r, hr⟩ : ∃ r, outV a2 a6 a7 a8 a9 = r := ⟨_, rfl⟩
 rw [hr]
 have HRr := am hr
 clear hr
 have kb := below_alloc (Below.refl w.heap.size w) (.cells #[.slice A0 n0 c0, .slice A1 n1 c1, .int .i64 a2, .int .i64 a3, .int .i64 a4, .int .i64 a5, .int .i64 a6, .int .i64 a7, .int .i64 a8, .int .i64 a9, .int .i64 a10, .int .i64 a11, .int .i64 a12] 25)
 have HB := am kb
 have HC := am (heap_alloc_new w (.cells #[.slice A0 n0 c0, .slice A1 n1 c1, .int .i64 a2, .int .i64 a3, .int .i64 a4, .int .i64 a5, .int .i64 a6, .int .i64 a7, .int .i64 a8, .int .i64 a9, .int .i64 a10, .int .i64 a11, .int .i64 a12] 25))
 clear kb
 go_enter Tryz.func72, Tryz.ntmps72
 go_upto_region 1 with fail
 generalize w.alloc (.cells #[.slice A0 n0 c0, .slice A1 n1 c1, .int .i64 a2, .int .i64 a3, .int .i64 a4, .int .i64 a5, .int .i64 a6, .int .i64 a7, .int .i64 a8, .int .i64 a9, .int .i64 a10, .int .i64 a11, .int .i64 a12] 25) = w1 at *
 have x2 : w1.cell? ⟨w.heap.size, 2, none⟩ = some (.int .i64 a2) := (blk_cell HC.out 2).trans rfl
 have x6 : w1.cell? ⟨w.heap.size, 6, none⟩ = some (.int .i64 a6) := (blk_cell HC.out 6).trans rfl
 have x7 : w1.cell? ⟨w.heap.size, 7, none⟩ = some (.int .i64 a7) := (blk_cell HC.out 7).trans rfl
 have x8 : w1.cell? ⟨w.heap.size, 8, none⟩ = some (.int .i64 a8) := (blk_cell HC.out 8).trans rfl
 have x9 : w1.cell? ⟨w.heap.size, 9, none⟩ = some (.int .i64 a9) := (blk_cell HC.out 9).trans rfl
 by_cases cd0 : a2 < 1000
 ·have d0 : decide (a2 < 1000) = true := dT cd0
  have e_ : r = 1 := by rw [← HRr.out]; unfold outV; rw [if_pos (by omega)]
  subst e_
  go_wp2_with fail
  go_ret
  exact ⟨rfl, HB.out⟩
 have d0 : decide (a2 < 1000) = false := dF cd0
 by_cases cd1 : 1000000 < a2
 ·have d1 : decide (1000000 < a2) = true := dT cd1
  have e_ : r = 1 := by rw [← HRr.out]; unfold outV; rw [if_pos (by omega)]
  subst e_
  go_wp2_with fail
  go_ret
  exact ⟨rfl, HB.out⟩
 have d1 : decide (1000000 < a2) = false := dF cd1
 by_cases cd2 : a6 < 0
 ·have d2 : decide (a6 < 0) = true := dT cd2
  have e_ : r = 2 := by rw [← HRr.out]; unfold outV; rw [if_neg (by omega), if_pos (by omega)]
  subst e_
  go_wp2_with fail
  go_ret
  exact ⟨rfl, HB.out⟩
 have d2 : decide (a6 < 0) = false := dF cd2
 by_cases cd3 : 500 < a6
 ·have d3 : decide (500 < a6) = true := dT cd3
  have e_ : r = 2 := by rw [← HRr.out]; unfold outV; rw [if_neg (by omega), if_pos (by omega)]
  subst e_
  go_wp2_with fail
  go_ret
  exact ⟨rfl, HB.out⟩
 have d3 : decide (500 < a6) = false := dF cd3
 by_cases cd4 : a7 < 0
 ·have d4 : decide (a7 < 0) = true := dT cd4
  have e_ : r = 3 := by rw [← HRr.out]; unfold outV; rw [if_neg (by omega), if_neg (by omega), if_pos (by omega)]
  subst e_
  go_wp2_with fail
  go_ret
  exact ⟨rfl, HB.out⟩
 have d4 : decide (a7 < 0) = false := dF cd4
 by_cases cd5 : 400000 < a7
 ·have d5 : decide (400000 < a7) = true := dT cd5
  have e_ : r = 3 := by rw [← HRr.out]; unfold outV; rw [if_neg (by omega), if_neg (by omega), if_pos (by omega)]
  subst e_
  go_wp2_with fail
  go_ret
  exact ⟨rfl, HB.out⟩
 have d5 : decide (400000 < a7) = false := dF cd5
 by_cases cd6 : a8 < 1
 ·have d6 : decide (a8 < 1) = true := dT cd6
  have e_ : r = 4 := by rw [← HRr.out]; unfold outV; rw [if_neg (by omega), if_neg (by omega), if_neg (by omega), if_pos (by omega)]
  subst e_
  go_wp2_with fail
  go_ret
  exact ⟨rfl, HB.out⟩
 have d6 : decide (a8 < 1) = false := dF cd6
 by_cases cd7 : 200 < a8
 ·have d7 : decide (200 < a8) = true := dT cd7
  have e_ : r = 4 := by rw [← HRr.out]; unfold outV; rw [if_neg (by omega), if_neg (by omega), if_neg (by omega), if_pos (by omega)]
  subst e_
  go_wp2_with fail
  go_ret
  exact ⟨rfl, HB.out⟩
 have d7 : decide (200 < a8) = false := dF cd7
 by_cases cd8 : a9 < 0
 ·have d8 : decide (a9 < 0) = true := dT cd8
  have e_ : r = 5 := by rw [← HRr.out]; unfold outV; rw [if_neg (by omega), if_neg (by omega), if_neg (by omega), if_neg (by omega), if_pos (by omega)]
  subst e_
  go_wp2_with fail
  go_ret
  exact ⟨rfl, HB.out⟩
 have d8 : decide (a9 < 0) = false := dF cd8
 by_cases cd9 : 20 < a9
 ·have d9 : decide (20 < a9) = true := dT cd9
  have e_ : r = 5 := by rw [← HRr.out]; unfold outV; rw [if_neg (by omega), if_neg (by omega), if_neg (by omega), if_neg (by omega), if_pos (by omega)]
  subst e_
  go_wp2_with fail
  go_ret
  exact ⟨rfl, HB.out⟩
 have d9 : decide (20 < a9) = false := dF cd9
 have e_ : r = 0 := by rw [← HRr.out]; unfold outV; rw [if_neg (by omega), if_neg (by omega), if_neg (by omega), if_neg (by omega), if_neg (by omega)]
 subst e_
 go_wp2_with fail
 go_ret
 exact ⟨rfl, HB.out⟩
end Go.Proofs.YtbefbhghmommhaaGreatDoor.MWo
namespace Go.Proofs.YtbefbhghmommhaaGreatDoor.MWo
open Go.RowKit Go.Proofs.YtbefbhghmommhaaGreatDoorW.PrintWords Go.Proofs.YtbefbhghmommhaaGreatDoorW.PrintLast Go.Proofs.YtbefbhghmommhaaGreatDoorW.PrintMore
attribute [local go_sem] mp_u32s mp_u32m mp_u8s mp_u8m max2_int min2_int max_two min_two max_three min_three max_four min_four
set_option linter.unusedVariables false
set_option linter.unusedSimpArgs false
def ticks_Ceil.f (a0 : Int) (a1 : Int) : Option (Int × Bool) := if a1 < 1 then (some (0, false)) else (if a1 = 0 then (none) else (if (Int.tmod a0 a1) > 0 then (some (wrap64 ((wrap64 (Int.tdiv a0 a1)) + 1), true)) else (some (wrap64 (Int.tdiv a0 a1), true))))
set_option maxHeartbeats 8000000 in
set_option maxRecDepth 100000 in
theorem ticks_Ceil.calls (a0 : Int) (a1 : Int) (r1 : Int) (r2 : Bool) (w : World) (h : ticks_Ceil.f a0 a1 = some (r1, r2)) :
  Calls Tryz.prog 89 #[.int .i64 a0, .int .i64 a1] w fun e w' => e = .returned (.tuple #[.int .i64 r1, .bool r2]) ∧ Drawn0 w w' := by
 have H : (if a1 < 1 then (some (0, false)) else (if a1 = 0 then (none) else (if (Int.tmod a0 a1) > 0 then (some (wrap64 ((wrap64 (Int.tdiv a0 a1)) + 1), true)) else (some (wrap64 (Int.tdiv a0 a1), true))))) = some (r1, r2) := h
 clear h
 by_cases c3 : a1 < 1
 ·rw [if_pos c3] at H
  have c3b0 : decide (a1 < 1) = true := dT c3
  clear c3
  simp only [Option.some.injEq, Prod.mk.injEq] at H
  obtain ⟨rfl, rfl⟩ := H
  go_enter Tryz.func89, Tryz.ntmps89
  go_wp2
  go_ret2
  exact ⟨sd, dn⟩
 ·rw [if_neg c3] at H
  have c3b0 : decide (a1 < 1) = false := dF c3
  clear c3
  by_cases c4 : a1 = 0
  ·rw [if_pos c4] at H
   exact absurd H (by simp)
  ·rw [if_neg c4] at H
   have c4b0 : (a1 == 0) = false := beq_eq_false_iff_ne.mpr c4
   have c4b1 : (a1 != 0) = true := bne_iff_ne.mpr c4
   by_cases c5 : (Int.tmod a0 a1) > 0
   ·rw [if_pos c5] at H
    have c5b0 : decide (0 < (Int.tmod a0 a1)) = true := dT c5
    clear c5
    simp only [Option.some.injEq, Prod.mk.injEq] at H
    obtain ⟨rfl, rfl⟩ := H
    go_enter Tryz.func89, Tryz.ntmps89
    go_wp2
    go_ret2
    exact ⟨sd, dn⟩
   ·rw [if_neg c5] at H
    have c5b0 : decide (0 < (Int.tmod a0 a1)) = false := dF c5
    clear c5
    simp only [Option.some.injEq, Prod.mk.injEq] at H
    obtain ⟨rfl, rfl⟩ := H
    go_enter Tryz.func89, Tryz.ntmps89
    go_wp2
    go_ret2
    exact ⟨sd, dn⟩
def bounds_part.f (a0 : Int) : Option (Int) := (ticks_Ceil.f a0 1000000).bind fun bt147 => (some bt147.1)
set_option maxHeartbeats 8000000 in
set_option maxRecDepth 100000 in
theorem bounds_part.calls (a0 : Int) (r : Int) (w : World) (h : bounds_part.f a0 = some r) :
  Calls Tryz.prog 80 #[.int .i64 a0] w fun e w' => e = .returned (.int .i64 r) ∧ Drawn0 w w' := by
 have H : ((ticks_Ceil.f a0 1000000).bind fun bt147 => (some bt147.1)) = some r := h
 clear h
 replace H := bS H
 obtain ⟨⟨t147, t148⟩, A20, H⟩ := H
 replace H : (some t147) = some r := H
 have A2 := am A20
 clear A20
 obtain rfl := Option.some.inj H
 go_enter Tryz.func80, Tryz.ntmps80
 go_wp2_with (first | ((with_reducible refine gate_callee (f := 89) rfl ?_); refine goesL_ (some 7) rfl rfl Tryz.func89 (by kernel_rfl) rfl #[.int .i64 a0, .int .i64 1000000] rfl lm ?_; (with_reducible refine (ticks_Ceil.calls a0 1000000 t147 t148 _ A2.out).mono ?_); rintro e w' ⟨rfl, ⟨nd, rfl⟩⟩; refine ⟨_, rfl, ?_⟩))
 go_ret
 exact ⟨sd, dn⟩
def bounds_first.l0 : Nat → Int → List Bool → Int → Int → Option (Int)
 | 0, _, _, _, _ => none
 | k + 1, x0, x7, x8, x9 => if x9 < x8 then (if 0 ≤ x9 then (if x9 < (x7.length : Int) then (if rdOf false x7 x9 = true then (bounds_first.l0 k x0 x7 x8 (wrap64 (x9 + 1))) else (some (wrap64 (x0 + x9)))) else (none)) else (none)) else (some 0)
def bounds_first.f (k : Nat) (a0 : Int) (l1 : List Bool) : Option (Int) := bounds_first.l0 k a0 l1 (l1.length : Int) 0
set_option maxHeartbeats 8000000 in
set_option maxRecDepth 100000 in
theorem bounds_first.calls (k : Nat) (a0 : Int) (A1 : Option Addr) (c1 : Nat) (l1 : List Bool) (r : Int) (w : World) (hr1 : Kd.C Kd.bool w A1 l1.length l1) (hc1 : l1.length ≤ c1) (h : bounds_first.f k a0 l1 = some r) :
  Calls Tryz.prog 78 #[.int .i64 a0, .slice A1 l1.length c1] w fun e w' => e = .returned (.int .i64 r) ∧ Drawn0 w w' := by
 have HR1 := am hr1
 have HC1 := am hc1
 clear hr1 hc1
 have H : (bounds_first.l0 k a0 l1 (l1.length : Int) 0) = some r := h
 clear h
 have H' := am H
 clear H
 go_enter Tryz.func78, Tryz.ntmps78
 go_wp2
 go_loopg [9] k (fun kq v9 w' => ∃ (x9_1 : Int), v9 = .int .i64 x9_1 ∧ Aside0 (bounds_first.l0 kq a0 l1 (l1.length : Int) x9_1 = some r) ∧ Aside0 (kq ≤ k) ∧ Drawn0 w w')
 case atStart => exact ⟨(0), bx, H', ⟨Nat.le_refl _⟩, dn⟩
 case round =>
  clear H'
  try clear c1
  try clear p2
  obtain ⟨x9_1, rfl, HA, HK1, ⟨m1, rfl⟩⟩ := hrel
  cases gk with
  | zero => exact absurd HA.out (by simp [bounds_first.l0])
  | succ k1 =>
   have H := HA.out
   clear HA
   simp only [bounds_first.l0] at H
   by_cases c3 : x9_1 < (l1.length : Int)
   ·rw [if_pos c3] at H
    have c3b0 : decide (x9_1 < (l1.length : Int)) = true := dT c3
    clear c3
    by_cases c4 : 0 ≤ x9_1
    ·rw [if_pos c4] at H
     have c4b0 : decide (0 ≤ x9_1) = true := dT c4
     clear c4
     by_cases c5 : x9_1 < (l1.length : Int)
     ·rw [if_pos c5] at H
      have c5b0 : decide (x9_1 < (l1.length : Int)) = true := dT c5
      clear c5
      obtain ⟨bq6, hbq6⟩ : ∃ b_ : Bool, b_ = (rdOf false l1 x9_1) := ⟨_, rfl⟩
      replace H : (if bq6 = true then (bounds_first.l0 k1 a0 l1 (l1.length : Int) (wrap64 (x9_1 + 1))) else (some (wrap64 (a0 + x9_1)))) = some r := by rw [← hbq6] at H; exact H
      have Nbq6 := am hbq6
      clear hbq6
      by_cases c7 : bq6 = true
      ·subst c7
       have H1 : (bounds_first.l0 k1 a0 l1 (l1.length : Int) (wrap64 (x9_1 + 1))) = some r := by rw [if_pos rfl] at H; exact H
       clear H
       have H := H1
       clear H1
       have H' := am H
       clear H
       have p136 : 0 ≤ (x9_1 : Int) := oT asm
       have q136 : x9_1 < (l1.length : Int) := oT asm
       obtain ⟨ad136, e136, hx136_0⟩ := Kd.at_bool HR1.out x9_1 p136 q136
       (try rw [← Nbq6.out] at hx136_0)
       cases e136
       replace p136 := eq_true p136
       replace q136 := eq_true q136
       go_wp2
       go_roundg k1
       case measure => have := HK1.out; omega
       case rel => exact ⟨(wrap64 (x9_1 + 1)), bx, H', ⟨by have := HK1.out; omega⟩, dn⟩
      ·replace c7 := Bool.eq_false_iff.mpr c7
       subst c7
       have H1 : (some (wrap64 (a0 + x9_1))) = some r := by rw [if_neg (show ¬ (false = true) by decide)] at H; exact H
       clear H
       have H := H1
       clear H1
       obtain rfl := Option.some.inj H
       have p136 : 0 ≤ (x9_1 : Int) := oT asm
       have q136 : x9_1 < (l1.length : Int) := oT asm
       obtain ⟨ad136, e136, hx136_0⟩ := Kd.at_bool HR1.out x9_1 p136 q136
       (try rw [← Nbq6.out] at hx136_0)
       cases e136
       replace p136 := eq_true p136
       replace q136 := eq_true q136
       go_wp2
       go_ret
       exact ⟨sd, dn⟩
     ·rw [if_neg c5] at H
      exact absurd H (by simp)
    ·rw [if_neg c4] at H
     exact absurd H (by simp)
   ·rw [if_neg c3] at H
    have c3b0 : decide (x9_1 < (l1.length : Int)) = false := dF c3
    clear c3
    obtain rfl := Option.some.inj H
    go_wp2
    go_ret
    exact ⟨sd, dn⟩
def bounds_within.f (a0 : Int) (a1 : Int) (a2 : Int) : Option (Bool) := if a0 ≥ a1 then (some (decide (a0 ≤ a2))) else (some false)
set_option maxHeartbeats 8000000 in
set_option maxRecDepth 100000 in
theorem bounds_within.calls (a0 : Int) (a1 : Int) (a2 : Int) (r : Bool) (w : World) (h : bounds_within.f a0 a1 a2 = some r) :
  Calls Tryz.prog 79 #[.int .i64 a0, .int .i64 a1, .int .i64 a2] w fun e w' => e = .returned (.bool r) ∧ Drawn0 w w' := by
 have H : (if a0 ≥ a1 then (some (decide (a0 ≤ a2))) else (some false)) = some r := h
 clear h
 by_cases c4 : a0 ≥ a1
 ·rw [if_pos c4] at H
  have c4b0 : decide (a1 ≤ a0) = true := dT c4
  clear c4
  obtain rfl := Option.some.inj H
  go_enter Tryz.func79, Tryz.ntmps79
  go_wp2
  go_ret
  exact ⟨sd, dn⟩
 ·rw [if_neg c4] at H
  have c4b0 : decide (a1 ≤ a0) = false := dF c4
  clear c4
  obtain rfl := Option.some.inj H
  go_enter Tryz.func79, Tryz.ntmps79
  go_wp2
  go_ret
  exact ⟨sd, dn⟩
def bounds_ranged.f (k : Nat) (l0_0 : List (S68)) (l0_1 : List (S71)) (a0_2 : Int) (a0_3 : Int) (a0_4 : Int) (a0_5 : Int) (a0_6 : Int) (a0_7 : Int) (a0_8 : Int) (a0_9 : Int) (a0_10 : Int) (a0_11 : Int) (a0_12 : Int) : Option (Int) := (bounds_within.f a0_2 1000 1000000).bind fun t138 => ((bounds_within.f a0_6 0 500).bind fun t139 => ((bounds_within.f a0_7 0 400000).bind fun t140 => ((bounds_within.f a0_8 1 200).bind fun t141 => ((bounds_within.f a0_9 0 20).bind fun t142 => ((bounds_first.f k 1 (([t138, t139, t140, t141, t142] : List Bool))).bind fun t146 => (some t146))))))
def bounds_ranged.T1 : Bool × List (List Nat × List Nat) := (true, [([], []), ([0], [0]), ([1], [1]), ([], []), ([3], [3]), ([4, 2], [4]), ([], []), ([6], [6]), ([7, 5], [7]), ([], []), ([9], [9]), ([10, 8], [10]), ([], []), ([12], [12]), ([13, 11], [13]), ([2, 5, 8, 11, 14], [2, 5, 8, 11, 14]), ([15, 14], [15]), ([16, 16, 0, 1, 2, 3, 4, 5, 6, 7, 8, 9, 10, 11, 12, 13, 14, 15, 16], [16])])
def bounds_ranged.B1 : List Nat := [0, 1, 3, 0, 8, 31, 0, 64, 255, 0, 512, 2047, 0, 4096, 16383, 32767, 65535, 131071]
theorem bounds_ranged.tab1 : rtab .any (opsOf Tryz.f65 1) = bounds_ranged.T1 := by kernel_rfl
theorem bounds_ranged.bits1 : waitsOk bounds_ranged.T1.2 bounds_ranged.B1 = true := by kernel_rfl
set_option maxHeartbeats 8000000 in
set_option maxRecDepth 100000 in
theorem bounds_ranged.calls (k : Nat) (A0_0 : Option Addr) (c0_0 : Nat) (l0_0 : List (S68)) (A0_1 : Option Addr) (c0_1 : Nat) (l0_1 : List (S71)) (a0_2 : Int) (a0_3 : Int) (a0_4 : Int) (a0_5 : Int) (a0_6 : Int) (a0_7 : Int) (a0_8 : Int) (a0_9 : Int) (a0_10 : Int) (a0_11 : Int) (a0_12 : Int) (r : Int) (w : World) (hr0_0 : Kd.C k68 w A0_0 l0_0.length l0_0) (hc0_0 : l0_0.length ≤ c0_0) (hr0_1 : Kd.C k71 w A0_1 l0_1.length l0_1) (hc0_1 : l0_1.length ≤ c0_1) (h : bounds_ranged.f k l0_0 l0_1 a0_2 a0_3 a0_4 a0_5 a0_6 a0_7 a0_8 a0_9 a0_10 a0_11 a0_12 = some r) :
  Calls Tryz.prog 65 #[.agg #[.slice A0_0 l0_0.length c0_0, .slice A0_1 l0_1.length c0_1, .int .i64 a0_2, .int .i64 a0_3, .int .i64 a0_4, .int .i64 a0_5, .int .i64 a0_6, .int .i64 a0_7, .int .i64 a0_8, .int .i64 a0_9, .int .i64 a0_10, .int .i64 a0_11, .int .i64 a0_12]] w fun e w' => e = .returned (.int .i64 r) ∧ Below w.heap.size w w' := by
 have hu25 := Tryz.underlying25
 have HR0_0 := am hr0_0
 have HC0_0 := am hc0_0
 clear hr0_0 hc0_0
 have HR0_1 := am hr0_1
 have HC0_1 := am hc0_1
 clear hr0_1 hc0_1
 have HB := am (Below.refl w.heap.size w)
 have H : ((bounds_within.f a0_2 1000 1000000).bind fun t138 => ((bounds_within.f a0_6 0 500).bind fun t139 => ((bounds_within.f a0_7 0 400000).bind fun t140 => ((bounds_within.f a0_8 1 200).bind fun t141 => ((bounds_within.f a0_9 0 20).bind fun t142 => ((bounds_first.f k 1 (([t138, t139, t140, t141, t142] : List Bool))).bind fun t146 => (some t146))))))) = some r := h
 clear h
 replace H := bS H
 obtain ⟨t138, A20, H⟩ := H
 replace H : ((bounds_within.f a0_6 0 500).bind fun t139 => ((bounds_within.f a0_7 0 400000).bind fun t140 => ((bounds_within.f a0_8 1 200).bind fun t141 => ((bounds_within.f a0_9 0 20).bind fun t142 => ((bounds_first.f k 1 (([t138, t139, t140, t141, t142] : List Bool))).bind fun t146 => (some t146)))))) = some r := H
 have A2 := am A20
 clear A20
 replace H := bS H
 obtain ⟨t139, A30, H⟩ := H
 replace H : ((bounds_within.f a0_7 0 400000).bind fun t140 => ((bounds_within.f a0_8 1 200).bind fun t141 => ((bounds_within.f a0_9 0 20).bind fun t142 => ((bounds_first.f k 1 (([t138, t139, t140, t141, t142] : List Bool))).bind fun t146 => (some t146))))) = some r := H
 have A3 := am A30
 clear A30
 replace H := bS H
 obtain ⟨t140, A40, H⟩ := H
 replace H : ((bounds_within.f a0_8 1 200).bind fun t141 => ((bounds_within.f a0_9 0 20).bind fun t142 => ((bounds_first.f k 1 (([t138, t139, t140, t141, t142] : List Bool))).bind fun t146 => (some t146)))) = some r := H
 have A4 := am A40
 clear A40
 replace H := bS H
 obtain ⟨t141, A50, H⟩ := H
 replace H : ((bounds_within.f a0_9 0 20).bind fun t142 => ((bounds_first.f k 1 (([t138, t139, t140, t141, t142] : List Bool))).bind fun t146 => (some t146))) = some r := H
 have A5 := am A50
 clear A50
 replace H := bS H
 obtain ⟨t142, A60, H⟩ := H
 replace H : ((bounds_first.f k 1 (([t138, t139, t140, t141, t142] : List Bool))).bind fun t146 => (some t146)) = some r := H
 have A6 := am A60
 clear A60
 obtain ⟨y143, hy143⟩ : ∃ y_ : List Bool, y_ = (([t138, t139, t140, t141, t142] : List Bool)) := ⟨_, rfl⟩
 replace H : ((bounds_first.f k 1 y143).bind fun t146 => (some t146)) = some r := by first | (rw [hy143]; with_reducible exact H) | (have H2_ := (Option.bind_some _ _).symm.trans H; rw [hy143]; with_reducible exact H2_) | (have H2_ := (Option.bind_some _ _).symm.trans H; with_reducible exact H2_) | with_reducible exact H | (rw [hy143]; exact H) | exact H
 have Ny143 := am hy143
 clear hy143
 replace H := bS H
 obtain ⟨t146, A70, H⟩ := H
 replace H : (some t146) = some r := H
 have A7 := am A70
 clear A70
 obtain rfl := Option.some.inj H
 go_enter Tryz.func65, Tryz.ntmps65
 try go_wp2_with (first | ((with_reducible refine gate_dst (N := 1) rfl ?_); refine bxe 1 #[.slice A0_0 l0_0.length c0_0, .slice A0_1 l0_1.length c0_1, .int .i64 a0_2, .int .i64 a0_3, .int .i64 a0_4, .int .i64 a0_5, .int .i64 a0_6, .int .i64 a0_7, .int .i64 a0_8, .int .i64 a0_9, .int .i64 a0_10, .int .i64 a0_11, .int .i64 a0_12] 25 ?_; intro gb137 hg w8 hbox hb; have n0_ := am (below_step bl0 hb); have n1_ := am (hbox); have n2_ := am (gw0 hg); have n3_ := am (gw0 hg); clear HB; have HB := n0_; have BK137 := n1_; have GW137 := n2_; have GE137 := n3_; clear n0_ n1_ n2_ n3_; clear hb hbox hg))
 have n0_ := am (blk_drew BK137.out)
 have n1_ := am (below_drew1 HB.out)
 clear BK137
 clear HB
 have BK137 := n0_
 have HB := n1_
 clear n0_ n1_
 refine start_ (n := 18) (S := fun w' => w'.cell? ⟨gb137, 0, none⟩ = some (.slice A0_0 l0_0.length c0_0) ∧ w'.cell? ⟨gb137, 1, none⟩ = some (.slice A0_1 l0_1.length c0_1) ∧ w'.cell? ⟨gb137, 2, none⟩ = some (.int .i64 a0_2) ∧ w'.cell? ⟨gb137, 3, none⟩ = some (.int .i64 a0_3) ∧ w'.cell? ⟨gb137, 4, none⟩ = some (.int .i64 a0_4) ∧ w'.cell? ⟨gb137, 5, none⟩ = some (.int .i64 a0_5) ∧ w'.cell? ⟨gb137, 6, none⟩ = some (.int .i64 a0_6) ∧ w'.cell? ⟨gb137, 7, none⟩ = some (.int .i64 a0_7) ∧ w'.cell? ⟨gb137, 8, none⟩ = some (.int .i64 a0_8) ∧ w'.cell? ⟨gb137, 9, none⟩ = some (.int .i64 a0_9) ∧ w'.cell? ⟨gb137, 10, none⟩ = some (.int .i64 a0_10) ∧ w'.cell? ⟨gb137, 11, none⟩ = some (.int .i64 a0_11) ∧ w'.cell? ⟨gb137, 12, none⟩ = some (.int .i64 a0_12)) (ds := []) #[false, false, false, false, false, false, false, false, false, false, false, false, false, false, false, false, false, false] (by kernel_rfl) rfl rfl (cellsK13 BK137.out) (fun hHeld => ?_); refine with_tabW bounds_ranged.tab1 bounds_ranged.bits1 (fun HT_ HW_ => ?_)
 generalize w8.drew = w9 at BK137 HB hHeld ⊢
 refine pv HT_ 0 3 ?_
 refine pv HT_ 3 6 ?_
 refine pv HT_ 6 9 ?_
 refine pv HT_ 9 12 ?_
 refine pv HT_ 12 15 ?_
 refine tw13 HT_ HW_ 1 4 ?_
 refine tw13 HT_ HW_ 4 7 ?_
 refine tw13 HT_ HW_ 7 10 ?_
 refine tw13 HT_ HW_ 10 13 ?_
 refine tw13 HT_ HW_ 13 16 ?_
 refine ov HT_ 2 5 (fun K hK => ?_)
 refine goes_ Tryz.func79 (by kernel_rfl) rfl #[.int .i64 a0_2, .int .i64 1000, .int .i64 1000000] (by rfl) rfl rfl lm ?_
 with_reducible refine (bounds_within.calls a0_2 1000 1000000 t138 _ A2.out).mono ?_
 rintro e w' ⟨rfl, ⟨nd, rfl⟩⟩
 refine ⟨_, rfl, ?_⟩
 refine hK.out _ _ (cellsK13 BK137.out) (fun hHeld => ?_)
 clear hK K
 refine norm_ (a' := ?_) ?_ ?_
 rotate_left
 ·show Act.put _ (some 5) _ = _
  simp only [Act.put, sAa, sBb, sCc, i64_w, i32_w]
  rfl
 refine ov HT_ 5 8 (fun K hK => ?_)
 refine goes_ Tryz.func79 (by kernel_rfl) rfl #[.int .i64 a0_6, .int .i64 0, .int .i64 500] (by rfl) rfl rfl lm ?_
 with_reducible refine (bounds_within.calls a0_6 0 500 t139 _ A3.out).mono ?_
 rintro e w' ⟨rfl, ⟨nd, rfl⟩⟩
 refine ⟨_, rfl, ?_⟩
 refine hK.out _ _ (cellsK13 BK137.out) (fun hHeld => ?_)
 clear hK K
 refine norm_ (a' := ?_) ?_ ?_
 rotate_left
 ·show Act.put _ (some 8) _ = _
  simp only [Act.put, sAa, sBb, sCc, i64_w, i32_w]
  rfl
 refine ov HT_ 8 11 (fun K hK => ?_)
 refine goes_ Tryz.func79 (by kernel_rfl) rfl #[.int .i64 a0_7, .int .i64 0, .int .i64 400000] (by rfl) rfl rfl lm ?_
 with_reducible refine (bounds_within.calls a0_7 0 400000 t140 _ A4.out).mono ?_
 rintro e w' ⟨rfl, ⟨nd, rfl⟩⟩
 refine ⟨_, rfl, ?_⟩
 refine hK.out _ _ (cellsK13 BK137.out) (fun hHeld => ?_)
 clear hK K
 refine norm_ (a' := ?_) ?_ ?_
 rotate_left
 ·show Act.put _ (some 11) _ = _
  simp only [Act.put, sAa, sBb, sCc, i64_w, i32_w]
  rfl
 refine ov HT_ 11 14 (fun K hK => ?_)
 refine goes_ Tryz.func79 (by kernel_rfl) rfl #[.int .i64 a0_8, .int .i64 1, .int .i64 200] (by rfl) rfl rfl lm ?_
 with_reducible refine (bounds_within.calls a0_8 1 200 t141 _ A5.out).mono ?_
 rintro e w' ⟨rfl, ⟨nd, rfl⟩⟩
 refine ⟨_, rfl, ?_⟩
 refine hK.out _ _ (cellsK13 BK137.out) (fun hHeld => ?_)
 clear hK K
 refine norm_ (a' := ?_) ?_ ?_
 rotate_left
 ·show Act.put _ (some 14) _ = _
  simp only [Act.put, sAa, sBb, sCc, i64_w, i32_w]
  rfl
 refine ov HT_ 14 17 (fun K hK => ?_)
 refine goes_ Tryz.func79 (by kernel_rfl) rfl #[.int .i64 a0_9, .int .i64 0, .int .i64 20] (by rfl) rfl rfl lm ?_
 with_reducible refine (bounds_within.calls a0_9 0 20 t142 _ A6.out).mono ?_
 rintro e w' ⟨rfl, ⟨nd, rfl⟩⟩
 refine ⟨_, rfl, ?_⟩
 refine hK.out _ _ (cellsK13 BK137.out) (fun hHeld => ?_)
 clear hK K
 refine norm_ (a' := ?_) ?_ ?_
 rotate_left
 ·show Act.put _ (some 17) _ = _
  simp only [Act.put, sAa, sBb, sCc, i64_w, i32_w]
  rfl
 refine ov HT_ 15 18 (fun K hK => ?_)
 refine Kd.R_lit_step Kd.bool _ 4 ?hg (N := 18) ?hd (xs := ([t138, t139, t140, t141, t142] : List Bool)) (inner := [.bool t138, .bool t139, .bool t140, .bool t141, .bool t142]) (ok := fun _ => True) (okp := fun _ => True) ?hr ?hp (fun _ hk => hk) trivial (Below.refl _ _) (Nat.le_refl _) (by simp) ?_; (case hd => rfl); (case hg => rfl); (case hr => first | (go_simp; done) | (go_simp; rfl)); (case hp => exact (Reps.one (show Kd.M Kd.bool _ _ _ t138 [.bool t138] from rfl) (Reps.one (show Kd.M Kd.bool _ _ _ t139 [.bool t139] from rfl) (Reps.one (show Kd.M Kd.bool _ _ _ t140 [.bool t140] from rfl) (Reps.one (show Kd.M Kd.bool _ _ _ t141 [.bool t141] from rfl) (Reps.one (show Kd.M Kd.bool _ _ _ t142 [.bool t142] from rfl) (Reps.none _ _)))))))
 intro v144 w10 ho11 hb hg_ hnew_
 clear hg_ hnew_
 (first | rw [← Ny143.out] at ho11 | (simp only [Int.reduceToNat] at ho11; rw [← Ny143.out] at ho11))
 have n0_ := am (Kd.R_lower ho11 (below_size (bl1 GE137)))
 have n1_ := am (blk_below (bk BK137) hb)
 have n2_ := am (below_step (bl1 GE137) hb)
 clear BK137
 clear HB
 have HO145 := n0_
 have BK137 := n1_
 have HB := n2_
 clear n0_ n1_ n2_
 clear hb ho11
 obtain ⟨Ao12, co12, eo12⟩ := Kd.R_slice HO145.out
 (first | subst eo12 | (injection eo12 with f1_ f2_ f3_; have f4_ := f1_.symm; have f5_ := f3_.symm; clear f1_ f2_ f3_; subst f4_; subst f5_))
 refine hK.out _ _ (cellsK13 BK137.out) (fun hHeld => ?_)
 clear hK K
 refine norm_ (a' := ?_) ?_ ?_
 rotate_left
 ·show Act.put _ (some 18) _ = _
  simp only [Act.put, sAa, sBb, sCc, i64_w, i32_w]
  rfl
 refine ov HT_ 16 19 (fun K hK => ?_)
 refine goes_ Tryz.func78 (by kernel_rfl) rfl #[.int .i64 1, .slice Ao12 y143.length co12] (by rfl) rfl rfl lm ?_
 with_reducible refine (bounds_first.calls k 1 _ _ y143 t146 _ ?side1 ?side2 A7.out).mono ?_
 (case side1 => exact kg (Kd.R_reads' HO145.out).2.2)
 (case side2 => exact (Kd.R_reads' HO145.out).2.1)
 rintro e w' ⟨rfl, ⟨nd, rfl⟩⟩
 refine ⟨_, rfl, ?_⟩
 refine hK.out _ _ (cellsK13 BK137.out) (fun hHeld => ?_)
 clear hK K
 refine norm_ (a' := ?_) ?_ ?_
 rotate_left
 ·show Act.put _ (some 19) _ = _
  simp only [Act.put, sAa, sBb, sCc, i64_w, i32_w]
  rfl
 refine pv HT_ 17 2 ?_
 refine done_ (done_of HT_.out (by kernel_rfl)) ?_
 try go_wp2
 go_ret
 exact ⟨ew, bl1 GE137⟩
end Go.Proofs.YtbefbhghmommhaaGreatDoor.MWo
