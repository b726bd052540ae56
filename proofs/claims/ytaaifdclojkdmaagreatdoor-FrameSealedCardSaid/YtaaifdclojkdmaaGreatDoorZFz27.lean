/- Texts of this claim, laid together by a program (wip/e/merge2.py): HEn. -/
import Derived.Test.YtaaifdclojkdmaaGreatDoorZFz24
import Derived.Test.YtaaifdclojkdmaaGreatDoorZFz2
import Derived.Test.YtaaifdclojkdmaaGreatDoorZFz25
import Derived.Test.YtaaifdclojkdmaaGreatDoorZFz19
import Derived.Test.YtaaifdclojkdmaaGreatDoorZFz9
import Derived.Test.YtaaifdclojkdmaaGreatDoorZFz26
import Derived.Deep.RegionWith
import Derived.Deep.RegionLaw
set_option linter.unusedVariables false
set_option linter.unusedSimpArgs false
set_option maxRecDepth 100000
namespace Go.Proofs.YtaaifdclojkdmaaGreatDoor.MFr
open Go.RowKit Go.Proofs.YtaaifdclojkdmaaGreatDoorW.PrintWords Go.Proofs.YtaaifdclojkdmaaGreatDoorW.PrintLast Go.Proofs.YtaaifdclojkdmaaGreatDoorW.PrintMore Go.Proofs.YtaaifdclojkdmaaGreatDoor.Wire Go.Proofs.YtaaifdclojkdmaaGreatDoor.Evl Go.Proofs.YtaaifdclojkdmaaGreatDoor.PSum
def bitI (b : Bool) : Int := if b = true then 1 else 0
theorem bit_is (b : Bool) : frame_bit.f b = some (bitI b) := by unfold frame_bit.f bitI; cases b <;> rfl
theorem pl_bys (w n : Int) : Bys (pl w n) := by
 unfold pl plainR
 split
 ·exact enc_bys _ _
 ·intro x hx; simp at hx
theorem sg_bys (w n : Int) : Bys (sg w n) := by
 unfold sg signedR
 split
 ·exact enc_bys _ _
 ·intro x hx; simp at hx
theorem agesB_bys (l : List Int) : Bys (agesB l) := by
 unfold agesB
 refine bys_append (pl_bys _ _) ?_
 intro x hx
 obtain ⟨a, _, ha⟩ := List.mem_flatMap.1 hx
 exact pl_bys _ _ x ha
theorem enc_no (p n wt mk lk : Int) (fl : Bool) (cy of_ : Int) (A9 : Option Addr) (c9 : Nat) (ag : List Int) (f1 f2 sq : Int) (A13 : Option Addr) (c13 : Nat) (bd : List Int) (k : Int) (w : World) (hM : ∀ W, Below w.heap.size w W → Calls Tryz.prog 21 #[.agg #[.int .i64 k, .int .i64 p, .int .i64 n, .int .i64 wt, .int .i64 mk, .int .i64 lk, .bool fl, .int .i64 cy, .int .i64 of_, .slice A9 ag.length c9, .int .i64 f1, .int .i64 f2, .int .i64 sq, .slice A13 bd.length c13]] W fun e w' => e = .returned (.bool false) ∧ Below W.heap.size W w') :
  Calls Tryz.prog 13 #[.agg #[.int .i64 k, .int .i64 p, .int .i64 n, .int .i64 wt, .int .i64 mk, .int .i64 lk, .bool fl, .int .i64 cy, .int .i64 of_, .slice A9 ag.length c9, .int .i64 f1, .int .i64 f2, .int .i64 sq, .slice A13 bd.length c13]] w fun e w' => ∃ v, e = .returned (.tuple #[v, .int .i64 1]) ∧ Kd.R (Kd.int .u8) 5 w' w.heap.size (fun _ => True) v [] ∧ Below w.heap.size w w' := by
 have HM := Aside0.mk (hM _ (below_alloc (Below.refl w.heap.size w) (.cells #[.int .i64 k, .int .i64 p, .int .i64 n, .int .i64 wt, .int .i64 mk, .int .i64 lk, .bool fl, .int .i64 cy, .int .i64 of_, .slice A9 ag.length c9, .int .i64 f1, .int .i64 f2, .int .i64 sq, .slice A13 bd.length c13] 26)))
 clear hM
 go_enter Tryz.func13, Tryz.ntmps13
 go_wp2_with fail
 refine HM.out.mono ?_
 rintro e w1 ⟨rfl, hb⟩
 have HB := Aside0.mk (below_step (below_alloc (Below.refl w.heap.size w) (.cells #[.int .i64 k, .int .i64 p, .int .i64 n, .int .i64 wt, .int .i64 mk, .int .i64 lk, .bool fl, .int .i64 cy, .int .i64 of_, .slice A9 ag.length c9, .int .i64 f1, .int .i64 f2, .int .i64 sq, .slice A13 bd.length c13] 26)) hb)
 clear hb
 go_wp2_with fail
 go_ret2
 exact ⟨_, rfl, Kd.R_nil _ _ _ _ _, HB.out⟩
set_option maxHeartbeats 8000000 in
theorem enc1 (p n wt mk lk : Int) (fl : Bool) (cy of_ : Int) (A9 : Option Addr) (c9 : Nat) (ag : List Int) (f1 f2 sq : Int) (A13 : Option Addr) (c13 : Nat) (bd : List Int) (w : World) (hM : ∀ W, Below w.heap.size w W → Calls Tryz.prog 21 #[.agg #[.int .i64 1, .int .i64 p, .int .i64 n, .int .i64 wt, .int .i64 mk, .int .i64 lk, .bool fl, .int .i64 cy, .int .i64 of_, .slice A9 ag.length c9, .int .i64 f1, .int .i64 f2, .int .i64 sq, .slice A13 bd.length c13]] W fun e w' => e = .returned (.bool true) ∧ Below W.heap.size W w') :
  Calls Tryz.prog 13 #[.agg #[.int .i64 1, .int .i64 p, .int .i64 n, .int .i64 wt, .int .i64 mk, .int .i64 lk, .bool fl, .int .i64 cy, .int .i64 of_, .slice A9 ag.length c9, .int .i64 f1, .int .i64 f2, .int .i64 sq, .slice A13 bd.length c13]] w fun e w' => ∃ v, e = .returned (.tuple #[v, .int .i64 0]) ∧ Kd.R (Kd.int .u8) 5 w' w.heap.size (fun _ => True) v (sld (pl 1 1 ++ pl 1 p ++ pl 1 n ++ (pl 2 wt))) ∧ Below w.heap.size w w' := by
 have HM := Aside0.mk (hM _ (below_alloc (Below.refl w.heap.size w) (.cells #[.int .i64 1, .int .i64 p, .int .i64 n, .int .i64 wt, .int .i64 mk, .int .i64 lk, .bool fl, .int .i64 cy, .int .i64 of_, .slice A9 ag.length c9, .int .i64 f1, .int .i64 f2, .int .i64 sq, .slice A13 bd.length c13] 26)))
 clear hM
 go_enter Tryz.func13, Tryz.ntmps13
 go_wp2_with fail
 refine HM.out.mono ?_
 rintro e w1 ⟨rfl, hb⟩
 have kb := below_alloc (Below.refl w.heap.size w) (.cells #[.int .i64 1, .int .i64 p, .int .i64 n, .int .i64 wt, .int .i64 mk, .int .i64 lk, .bool fl, .int .i64 cy, .int .i64 of_, .slice A9 ag.length c9, .int .i64 f1, .int .i64 f2, .int .i64 sq, .slice A13 bd.length c13] 26)
 have HB0 := Aside0.mk (below_step kb hb)
 have HP0 : Aside0 (w1.heap[w.heap.size]? = some (.cells #[.int .i64 1, .int .i64 p, .int .i64 n, .int .i64 wt, .int .i64 mk, .int .i64 lk, .bool fl, .int .i64 cy, .int .i64 of_, .slice A9 ag.length c9, .int .i64 f1, .int .i64 f2, .int .i64 sq, .slice A13 bd.length c13] 26 (0, 0))) := ⟨(hb.block w.heap.size (blk_lt (heap_alloc_new w _))).trans (heap_alloc_new w _)⟩
 obtain ⟨b1, hb1⟩ : ∃ b1, b1 = w.heap.size := ⟨_, rfl⟩
 rw [← hb1] at HP0
 rw [← hb1]
 have HB1 := Aside0.mk hb1
 clear hb kb hb1 HM
 have x0 : ∀ o : Obj, (w1.alloc o).cell? ⟨b1, 0, none⟩ = some (.int .i64 1) := fun o => (blk_cell ((Below.heap_alloc w1 o b1 (blk_lt HP0.out)).trans HP0.out) 0).trans rfl
 have x1 : ∀ o : Obj, (w1.alloc o).cell? ⟨b1, 1, none⟩ = some (.int .i64 p) := fun o => (blk_cell ((Below.heap_alloc w1 o b1 (blk_lt HP0.out)).trans HP0.out) 1).trans rfl
 have x2 : ∀ o : Obj, (w1.alloc o).cell? ⟨b1, 2, none⟩ = some (.int .i64 n) := fun o => (blk_cell ((Below.heap_alloc w1 o b1 (blk_lt HP0.out)).trans HP0.out) 2).trans rfl
 go_wp2_with fail
 have kw := below_alloc (Below.refl w1.heap.size w1) (.cells #[.slice none 0 0] 61)
 have HW0 : Aside0 (Wr (w1.alloc (.cells #[.slice none 0 0] 61)) (w1.heap.size + 1) w1.heap.size []) := ⟨⟨none, 0, heap_alloc_new w1 _, Kd.R_nil _ _ _ _ _⟩⟩
 have kb := below_alloc (Below.refl (w1.alloc (.cells #[.slice none 0 0] 61)).heap.size (w1.alloc (.cells #[.slice none 0 0] 61))) (.cells #[.int .i64 1, .int .i64 p, .int .i64 n] 2)
 have hsz : (w1.alloc (.cells #[.slice none 0 0] 61)).heap.size = w1.heap.size + 1 := by simp
 have W_ := wplain3 1 1 p n [] w1.heap.size (w1.heap.size + 1) ((w1.alloc (.cells #[.slice none 0 0] 61)).alloc (.cells #[.int .i64 1, .int .i64 p, .int .i64 n] 2)) (HW0.out.more kb) (by have h := heap_alloc_new (w1.alloc (.cells #[.slice none 0 0] 61)) (.cells #[.int .i64 1, .int .i64 p, .int .i64 n] 2); rw [hsz] at h; exact h) (by simp) (by simp)
 have HPk := Aside0.mk ((kb.block b1 (Nat.lt_of_lt_of_le (blk_lt HP0.out) kw.size)).trans ((kw.block b1 (blk_lt HP0.out)).trans HP0.out))
 have HBk := Aside0.mk (below_step (below_step HB0.out kw) kb)
 have HGB := Aside0.mk (blk_lt HP0.out)
 have HGW := Aside0.mk HB0.out.size
 clear kw kb hsz HW0
 generalize (w1.alloc (.cells #[.slice none 0 0] 61)).alloc (.cells #[.int .i64 1, .int .i64 p, .int .i64 n] 2) = wk at *
 generalize w1.heap.size + 1 = bk at *
 generalize w1.heap.size = g at *
 refine W_.mono ?_
 rintro e w2 ⟨rfl, hW, hB⟩
 have HW := Aside0.mk hW
 have HB := Aside0.mk (HBk.out.trans (hB.mono HGW.out))
 have HP := Aside0.mk ((hB.block b1 HGB.out).trans HPk.out)
 have HL0 : Aside0 (([] ++ pl 1 1 ++ pl 1 p ++ pl 1 n : List Int).length ≤ 21) := ⟨by have a := pl_len 1 1; have b := pl_len 1 p; have c_ := pl_len 1 n; simp only [List.length_append, List.length_nil]; omega⟩
 obtain ⟨q0, hq0⟩ : ∃ q0, [] ++ pl 1 1 ++ pl 1 p ++ pl 1 n = q0 := ⟨_, rfl⟩
 rw [hq0] at HW HL0
 have HQ0 := Aside0.mk hq0
 clear hW hB W_ x0 x1 x2 hq0 HBk HPk
 have y3 : w2.cell? ⟨b1, 3, none⟩ = some (.int .i64 wt) := (blk_cell HP.out 3).trans rfl
 have y0 : w2.cell? ⟨b1, 0, none⟩ = some (.int .i64 1) := (blk_cell HP.out 0).trans rfl
 have kb := below_alloc (Below.refl w2.heap.size w2) (.cells #[.int .i64 wt] 2)
 have W_ := wplain1 2 wt q0 g w2.heap.size (w2.alloc (.cells #[.int .i64 wt] 2)) (HW.out.more kb) (heap_alloc_new _ _) (by have := HL0.out; omega) (by simp)
 go_wp2_with fail
 refine W_.mono ?_
 rintro e w3 ⟨rfl, hW, hB⟩
 clear y3 y0
 have HW_ := Aside0.mk hW
 have HB_ := Aside0.mk ((HB.out.trans (kb.mono HB.out.size)).trans (hB.mono (Nat.le_trans HGW.out (Nat.le_refl g))))
 have HP_ := Aside0.mk ((hB.block b1 HGB.out).trans ((kb.block b1 (blk_lt HP.out)).trans HP.out))
 obtain ⟨q1, hq1⟩ : ∃ q_, q0 ++ pl 2 wt = q_ := ⟨_, rfl⟩
 have HL1 : Aside0 (q1.length ≤ 28) := ⟨by rw [← hq1]; have h0 := HL0.out; have h1 := pl_len 2 wt; simp only [List.length_append]; omega⟩
 rw [hq1] at HW_
 have HQ1 := Aside0.mk hq1
 clear hW hB hq1 HW HB HP kb W_
 have HW := HW_
 have HB := HB_
 have HP := HP_
 clear HW_ HB_ HP_
 have hfin : q1 = pl 1 1 ++ pl 1 p ++ pl 1 n ++ (pl 2 wt) := by rw [← HQ1.out, ← HQ0.out]; simp only [List.nil_append, List.append_assoc]
 have hbys : Bys q1 := by rw [hfin]; exact bys_append (bys_append (bys_append (pl_bys _ _) (pl_bys _ _)) (pl_bys _ _)) (pl_bys _ _)
 obtain ⟨ks, hks⟩ := (seal_evl hbys (by have := HL1.out; omega)).some_
 rw [hfin] at hks
 obtain ⟨z, hz⟩ : ∃ z, sld (pl 1 1 ++ pl 1 p ++ pl 1 n ++ (pl 2 wt)) = z := ⟨_, rfl⟩
 rw [hz] at hks
 have HZ := Aside0.mk hz
 obtain ⟨A_, c_, hgb, hgr⟩ := HW.out
 have hC := (Kd.R_reads' hgr).2.2
 have hcc := (Kd.R_reads' hgr).2.1
 have W_ := sum_Seal.calls ks A_ c_ q1 z w3 hC hcc (by rw [hfin]; exact hks)
 have gc : w3.cell? ⟨g, 0, none⟩ = some (.slice A_ q1.length c_) := (blk_cell hgb 0).trans rfl
 clear hfin hbys hks hC hcc hgb hgr hz
 go_wp2_with fail
 refine W_.mono ?_
 rintro e wz ⟨v, rfl, ho, hb⟩
 obtain ⟨Az, cz, rfl⟩ := Kd.R_slice ho
 have HO := Aside0.mk ho
 have HBz := Aside0.mk (below_step HB.out hb)
 have HSz := Aside0.mk HB.out.size
 clear ho hb W_ gc
 go_wp2_with fail
 go_ret2
 rw [HZ.out]
 exact ⟨_, rfl, Kd.R_lower HO.out HSz.out, HBz.out⟩
set_option maxHeartbeats 8000000 in
theorem enc2 (p n wt mk lk : Int) (fl : Bool) (cy of_ : Int) (A9 : Option Addr) (c9 : Nat) (ag : List Int) (f1 f2 sq : Int) (A13 : Option Addr) (c13 : Nat) (bd : List Int) (w : World) (hM : ∀ W, Below w.heap.size w W → Calls Tryz.prog 21 #[.agg #[.int .i64 2, .int .i64 p, .int .i64 n, .int .i64 wt, .int .i64 mk, .int .i64 lk, .bool fl, .int .i64 cy, .int .i64 of_, .slice A9 ag.length c9, .int .i64 f1, .int .i64 f2, .int .i64 sq, .slice A13 bd.length c13]] W fun e w' => e = .returned (.bool true) ∧ Below W.heap.size W w') (h9 : Kd.C (Kd.int .i64) w A9 ag.length ag) (q9 : ag.length ≤ c9) (hl : ag.length ≤ 1000) :
  Calls Tryz.prog 13 #[.agg #[.int .i64 2, .int .i64 p, .int .i64 n, .int .i64 wt, .int .i64 mk, .int .i64 lk, .bool fl, .int .i64 cy, .int .i64 of_, .slice A9 ag.length c9, .int .i64 f1, .int .i64 f2, .int .i64 sq, .slice A13 bd.length c13]] w fun e w' => ∃ v, e = .returned (.tuple #[v, .int .i64 0]) ∧ Kd.R (Kd.int .u8) 5 w' w.heap.size (fun _ => True) v (sld (pl 1 2 ++ pl 1 p ++ pl 1 n ++ (pl 6 cy ++ pl 2 mk ++ agesB ag))) ∧ Below w.heap.size w w' := by
 have H9 := Aside0.mk h9
 have Q9 := Aside0.mk q9
 have HL := Aside0.mk hl
 clear h9 q9 hl
 have HM := Aside0.mk (hM _ (below_alloc (Below.refl w.heap.size w) (.cells #[.int .i64 2, .int .i64 p, .int .i64 n, .int .i64 wt, .int .i64 mk, .int .i64 lk, .bool fl, .int .i64 cy, .int .i64 of_, .slice A9 ag.length c9, .int .i64 f1, .int .i64 f2, .int .i64 sq, .slice A13 bd.length c13] 26)))
 clear hM
 go_enter Tryz.func13, Tryz.ntmps13
 go_wp2_with fail
 refine HM.out.mono ?_
 rintro e w1 ⟨rfl, hb⟩
 have kb := below_alloc (Below.refl w.heap.size w) (.cells #[.int .i64 2, .int .i64 p, .int .i64 n, .int .i64 wt, .int .i64 mk, .int .i64 lk, .bool fl, .int .i64 cy, .int .i64 of_, .slice A9 ag.length c9, .int .i64 f1, .int .i64 f2, .int .i64 sq, .slice A13 bd.length c13] 26)
 have HB0 := Aside0.mk (below_step kb hb)
 have HP0 : Aside0 (w1.heap[w.heap.size]? = some (.cells #[.int .i64 2, .int .i64 p, .int .i64 n, .int .i64 wt, .int .i64 mk, .int .i64 lk, .bool fl, .int .i64 cy, .int .i64 of_, .slice A9 ag.length c9, .int .i64 f1, .int .i64 f2, .int .i64 sq, .slice A13 bd.length c13] 26 (0, 0))) := ⟨(hb.block w.heap.size (blk_lt (heap_alloc_new w _))).trans (heap_alloc_new w _)⟩
 obtain ⟨b1, hb1⟩ : ∃ b1, b1 = w.heap.size := ⟨_, rfl⟩
 rw [← hb1] at HP0
 rw [← hb1]
 have HB1 := Aside0.mk hb1
 clear hb kb hb1 HM
 have x0 : ∀ o : Obj, (w1.alloc o).cell? ⟨b1, 0, none⟩ = some (.int .i64 2) := fun o => (blk_cell ((Below.heap_alloc w1 o b1 (blk_lt HP0.out)).trans HP0.out) 0).trans rfl
 have x1 : ∀ o : Obj, (w1.alloc o).cell? ⟨b1, 1, none⟩ = some (.int .i64 p) := fun o => (blk_cell ((Below.heap_alloc w1 o b1 (blk_lt HP0.out)).trans HP0.out) 1).trans rfl
 have x2 : ∀ o : Obj, (w1.alloc o).cell? ⟨b1, 2, none⟩ = some (.int .i64 n) := fun o => (blk_cell ((Below.heap_alloc w1 o b1 (blk_lt HP0.out)).trans HP0.out) 2).trans rfl
 go_wp2_with fail
 have kw := below_alloc (Below.refl w1.heap.size w1) (.cells #[.slice none 0 0] 61)
 have HW0 : Aside0 (Wr (w1.alloc (.cells #[.slice none 0 0] 61)) (w1.heap.size + 1) w1.heap.size []) := ⟨⟨none, 0, heap_alloc_new w1 _, Kd.R_nil _ _ _ _ _⟩⟩
 have kb := below_alloc (Below.refl (w1.alloc (.cells #[.slice none 0 0] 61)).heap.size (w1.alloc (.cells #[.slice none 0 0] 61))) (.cells #[.int .i64 2, .int .i64 p, .int .i64 n] 2)
 have hsz : (w1.alloc (.cells #[.slice none 0 0] 61)).heap.size = w1.heap.size + 1 := by simp
 have W_ := wplain3 1 2 p n [] w1.heap.size (w1.heap.size + 1) ((w1.alloc (.cells #[.slice none 0 0] 61)).alloc (.cells #[.int .i64 2, .int .i64 p, .int .i64 n] 2)) (HW0.out.more kb) (by have h := heap_alloc_new (w1.alloc (.cells #[.slice none 0 0] 61)) (.cells #[.int .i64 2, .int .i64 p, .int .i64 n] 2); rw [hsz] at h; exact h) (by simp) (by simp)
 have HPk := Aside0.mk ((kb.block b1 (Nat.lt_of_lt_of_le (blk_lt HP0.out) kw.size)).trans ((kw.block b1 (blk_lt HP0.out)).trans HP0.out))
 have HBk := Aside0.mk (below_step (below_step HB0.out kw) kb)
 have HGB := Aside0.mk (blk_lt HP0.out)
 have HGW := Aside0.mk HB0.out.size
 clear kw kb hsz HW0
 generalize (w1.alloc (.cells #[.slice none 0 0] 61)).alloc (.cells #[.int .i64 2, .int .i64 p, .int .i64 n] 2) = wk at *
 generalize w1.heap.size + 1 = bk at *
 generalize w1.heap.size = g at *
 refine W_.mono ?_
 rintro e w2 ⟨rfl, hW, hB⟩
 have HW := Aside0.mk hW
 have HB := Aside0.mk (HBk.out.trans (hB.mono HGW.out))
 have HP := Aside0.mk ((hB.block b1 HGB.out).trans HPk.out)
 have HL0 : Aside0 (([] ++ pl 1 2 ++ pl 1 p ++ pl 1 n : List Int).length ≤ 21) := ⟨by have a := pl_len 1 2; have b := pl_len 1 p; have c_ := pl_len 1 n; simp only [List.length_append, List.length_nil]; omega⟩
 obtain ⟨q0, hq0⟩ : ∃ q0, [] ++ pl 1 2 ++ pl 1 p ++ pl 1 n = q0 := ⟨_, rfl⟩
 rw [hq0] at HW HL0
 have HQ0 := Aside0.mk hq0
 clear hW hB W_ x0 x1 x2 hq0 HBk HPk
 have y7 : w2.cell? ⟨b1, 7, none⟩ = some (.int .i64 cy) := (blk_cell HP.out 7).trans rfl
 have y0 : w2.cell? ⟨b1, 0, none⟩ = some (.int .i64 2) := (blk_cell HP.out 0).trans rfl
 have kb := below_alloc (Below.refl w2.heap.size w2) (.cells #[.int .i64 cy] 2)
 have W_ := wplain1 6 cy q0 g w2.heap.size (w2.alloc (.cells #[.int .i64 cy] 2)) (HW.out.more kb) (heap_alloc_new _ _) (by have := HL0.out; omega) (by simp)
 go_wp2_with fail
 refine W_.mono ?_
 rintro e w3 ⟨rfl, hW, hB⟩
 clear y7 y0
 have HW_ := Aside0.mk hW
 have HB_ := Aside0.mk ((HB.out.trans (kb.mono HB.out.size)).trans (hB.mono (Nat.le_trans HGW.out (Nat.le_refl g))))
 have HP_ := Aside0.mk ((hB.block b1 HGB.out).trans ((kb.block b1 (blk_lt HP.out)).trans HP.out))
 obtain ⟨q1, hq1⟩ : ∃ q_, q0 ++ pl 6 cy = q_ := ⟨_, rfl⟩
 have HL1 : Aside0 (q1.length ≤ 28) := ⟨by rw [← hq1]; have h0 := HL0.out; have h1 := pl_len 6 cy; simp only [List.length_append]; omega⟩
 rw [hq1] at HW_
 have HQ1 := Aside0.mk hq1
 clear hW hB hq1 HW HB HP kb W_
 have HW := HW_
 have HB := HB_
 have HP := HP_
 clear HW_ HB_ HP_
 have y4 : w3.cell? ⟨b1, 4, none⟩ = some (.int .i64 mk) := (blk_cell HP.out 4).trans rfl
 have kb := below_alloc (Below.refl w3.heap.size w3) (.cells #[.int .i64 mk] 2)
 have W_ := wplain1 2 mk q1 g w3.heap.size (w3.alloc (.cells #[.int .i64 mk] 2)) (HW.out.more kb) (heap_alloc_new _ _) (by have := HL1.out; omega) (by simp)
 go_wp2_with fail
 refine W_.mono ?_
 rintro e w4 ⟨rfl, hW, hB⟩
 clear y4
 have HW_ := Aside0.mk hW
 have HB_ := Aside0.mk ((HB.out.trans (kb.mono HB.out.size)).trans (hB.mono (Nat.le_trans HGW.out (Nat.le_refl g))))
 have HP_ := Aside0.mk ((hB.block b1 HGB.out).trans ((kb.block b1 (blk_lt HP.out)).trans HP.out))
 obtain ⟨q2, hq2⟩ : ∃ q_, q1 ++ pl 2 mk = q_ := ⟨_, rfl⟩
 have HL2 : Aside0 (q2.length ≤ 35) := ⟨by rw [← hq2]; have h0 := HL1.out; have h1 := pl_len 2 mk; simp only [List.length_append]; omega⟩
 rw [hq2] at HW_
 have HQ2 := Aside0.mk hq2
 clear hW hB hq2 HW HB HP kb W_
 have HW := HW_
 have HB := HB_
 have HP := HP_
 clear HW_ HB_ HP_
 have y9 : w4.cell? ⟨b1, 9, none⟩ = some (.slice A9 ag.length c9) := (blk_cell HP.out 9).trans rfl
 have W_ := wages A9 c9 ag q2 g g w4 HW.out (fun W hW => Kd.C_below H9.out (HB.out.trans (hW.mono HGW.out))) Q9.out HL.out (by have := HL2.out; omega)
 go_wp2_with fail
 refine W_.mono ?_
 rintro e w5 ⟨rfl, hW, hB⟩
 clear y9
 have HW_ := Aside0.mk hW
 have HB_ := Aside0.mk (HB.out.trans (hB.mono (Nat.le_trans HGW.out (Nat.le_refl g))))
 have HP_ := Aside0.mk ((hB.block b1 HGB.out).trans HP.out)
 obtain ⟨q3, hq3⟩ : ∃ q_, q2 ++ agesB ag = q_ := ⟨_, rfl⟩
 have HL3 : Aside0 (q3.length ≤ 7135) := ⟨by rw [← hq3]; have h0 := HL2.out; have h1 := agesB_len ag; have h2 := pl_len 1 (ag.length : Int); have h3 := HL.out; unfold agesB; simp only [List.length_append]; omega⟩
 rw [hq3] at HW_
 have HQ3 := Aside0.mk hq3
 clear hW hB hq3 HW HB HP W_
 have HW := HW_
 have HB := HB_
 have HP := HP_
 clear HW_ HB_ HP_
 have hfin : q3 = pl 1 2 ++ pl 1 p ++ pl 1 n ++ (pl 6 cy ++ pl 2 mk ++ agesB ag) := by rw [← HQ3.out, ← HQ2.out, ← HQ1.out, ← HQ0.out]; simp only [List.nil_append, List.append_assoc]
 have hbys : Bys q3 := by rw [hfin]; exact bys_append (bys_append (bys_append (pl_bys _ _) (pl_bys _ _)) (pl_bys _ _)) (bys_append (bys_append (pl_bys _ _) (pl_bys _ _)) (agesB_bys _))
 obtain ⟨ks, hks⟩ := (seal_evl hbys (by have := HL3.out; omega)).some_
 rw [hfin] at hks
 obtain ⟨z, hz⟩ : ∃ z, sld (pl 1 2 ++ pl 1 p ++ pl 1 n ++ (pl 6 cy ++ pl 2 mk ++ agesB ag)) = z := ⟨_, rfl⟩
 rw [hz] at hks
 have HZ := Aside0.mk hz
 obtain ⟨A_, c_, hgb, hgr⟩ := HW.out
 have hC := (Kd.R_reads' hgr).2.2
 have hcc := (Kd.R_reads' hgr).2.1
 have W_ := sum_Seal.calls ks A_ c_ q3 z w5 hC hcc (by rw [hfin]; exact hks)
 have gc : w5.cell? ⟨g, 0, none⟩ = some (.slice A_ q3.length c_) := (blk_cell hgb 0).trans rfl
 clear hfin hbys hks hC hcc hgb hgr hz
 go_wp2_with fail
 refine W_.mono ?_
 rintro e wz ⟨v, rfl, ho, hb⟩
 obtain ⟨Az, cz, rfl⟩ := Kd.R_slice ho
 have HO := Aside0.mk ho
 have HBz := Aside0.mk (below_step HB.out hb)
 have HSz := Aside0.mk HB.out.size
 clear ho hb W_ gc
 go_wp2_with fail
 go_ret2
 rw [HZ.out]
 exact ⟨_, rfl, Kd.R_lower HO.out HSz.out, HBz.out⟩
set_option maxHeartbeats 8000000 in
theorem enc3 (p n wt mk lk : Int) (fl : Bool) (cy of_ : Int) (A9 : Option Addr) (c9 : Nat) (ag : List Int) (f1 f2 sq : Int) (A13 : Option Addr) (c13 : Nat) (bd : List Int) (w : World) (hM : ∀ W, Below w.heap.size w W → Calls Tryz.prog 21 #[.agg #[.int .i64 3, .int .i64 p, .int .i64 n, .int .i64 wt, .int .i64 mk, .int .i64 lk, .bool fl, .int .i64 cy, .int .i64 of_, .slice A9 ag.length c9, .int .i64 f1, .int .i64 f2, .int .i64 sq, .slice A13 bd.length c13]] W fun e w' => e = .returned (.bool true) ∧ Below W.heap.size W w') (hof : -9223372036854775808 ≤ of_ ∧ of_ ≤ 9223372036854775807) :
  Calls Tryz.prog 13 #[.agg #[.int .i64 3, .int .i64 p, .int .i64 n, .int .i64 wt, .int .i64 mk, .int .i64 lk, .bool fl, .int .i64 cy, .int .i64 of_, .slice A9 ag.length c9, .int .i64 f1, .int .i64 f2, .int .i64 sq, .slice A13 bd.length c13]] w fun e w' => ∃ v, e = .returned (.tuple #[v, .int .i64 0]) ∧ Kd.R (Kd.int .u8) 5 w' w.heap.size (fun _ => True) v (sld (pl 1 3 ++ pl 1 p ++ pl 1 n ++ (pl 1 lk ++ pl 1 (bitI fl) ++ pl 6 cy ++ sg 6 of_))) ∧ Below w.heap.size w w' := by
 have HOF := Aside0.mk hof
 clear hof
 have HM := Aside0.mk (hM _ (below_alloc (Below.refl w.heap.size w) (.cells #[.int .i64 3, .int .i64 p, .int .i64 n, .int .i64 wt, .int .i64 mk, .int .i64 lk, .bool fl, .int .i64 cy, .int .i64 of_, .slice A9 ag.length c9, .int .i64 f1, .int .i64 f2, .int .i64 sq, .slice A13 bd.length c13] 26)))
 clear hM
 go_enter Tryz.func13, Tryz.ntmps13
 go_wp2_with fail
 refine HM.out.mono ?_
 rintro e w1 ⟨rfl, hb⟩
 have kb := below_alloc (Below.refl w.heap.size w) (.cells #[.int .i64 3, .int .i64 p, .int .i64 n, .int .i64 wt, .int .i64 mk, .int .i64 lk, .bool fl, .int .i64 cy, .int .i64 of_, .slice A9 ag.length c9, .int .i64 f1, .int .i64 f2, .int .i64 sq, .slice A13 bd.length c13] 26)
 have HB0 := Aside0.mk (below_step kb hb)
 have HP0 : Aside0 (w1.heap[w.heap.size]? = some (.cells #[.int .i64 3, .int .i64 p, .int .i64 n, .int .i64 wt, .int .i64 mk, .int .i64 lk, .bool fl, .int .i64 cy, .int .i64 of_, .slice A9 ag.length c9, .int .i64 f1, .int .i64 f2, .int .i64 sq, .slice A13 bd.length c13] 26 (0, 0))) := ⟨(hb.block w.heap.size (blk_lt (heap_alloc_new w _))).trans (heap_alloc_new w _)⟩
 obtain ⟨b1, hb1⟩ : ∃ b1, b1 = w.heap.size := ⟨_, rfl⟩
 rw [← hb1] at HP0
 rw [← hb1]
 have HB1 := Aside0.mk hb1
 clear hb kb hb1 HM
 have x0 : ∀ o : Obj, (w1.alloc o).cell? ⟨b1, 0, none⟩ = some (.int .i64 3) := fun o => (blk_cell ((Below.heap_alloc w1 o b1 (blk_lt HP0.out)).trans HP0.out) 0).trans rfl
 have x1 : ∀ o : Obj, (w1.alloc o).cell? ⟨b1, 1, none⟩ = some (.int .i64 p) := fun o => (blk_cell ((Below.heap_alloc w1 o b1 (blk_lt HP0.out)).trans HP0.out) 1).trans rfl
 have x2 : ∀ o : Obj, (w1.alloc o).cell? ⟨b1, 2, none⟩ = some (.int .i64 n) := fun o => (blk_cell ((Below.heap_alloc w1 o b1 (blk_lt HP0.out)).trans HP0.out) 2).trans rfl
 go_wp2_with fail
 have kw := below_alloc (Below.refl w1.heap.size w1) (.cells #[.slice none 0 0] 61)
 have HW0 : Aside0 (Wr (w1.alloc (.cells #[.slice none 0 0] 61)) (w1.heap.size + 1) w1.heap.size []) := ⟨⟨none, 0, heap_alloc_new w1 _, Kd.R_nil _ _ _ _ _⟩⟩
 have kb := below_alloc (Below.refl (w1.alloc (.cells #[.slice none 0 0] 61)).heap.size (w1.alloc (.cells #[.slice none 0 0] 61))) (.cells #[.int .i64 3, .int .i64 p, .int .i64 n] 2)
 have hsz : (w1.alloc (.cells #[.slice none 0 0] 61)).heap.size = w1.heap.size + 1 := by simp
 have W_ := wplain3 1 3 p n [] w1.heap.size (w1.heap.size + 1) ((w1.alloc (.cells #[.slice none 0 0] 61)).alloc (.cells #[.int .i64 3, .int .i64 p, .int .i64 n] 2)) (HW0.out.more kb) (by have h := heap_alloc_new (w1.alloc (.cells #[.slice none 0 0] 61)) (.cells #[.int .i64 3, .int .i64 p, .int .i64 n] 2); rw [hsz] at h; exact h) (by simp) (by simp)
 have HPk := Aside0.mk ((kb.block b1 (Nat.lt_of_lt_of_le (blk_lt HP0.out) kw.size)).trans ((kw.block b1 (blk_lt HP0.out)).trans HP0.out))
 have HBk := Aside0.mk (below_step (below_step HB0.out kw) kb)
 have HGB := Aside0.mk (blk_lt HP0.out)
 have HGW := Aside0.mk HB0.out.size
 clear kw kb hsz HW0
 generalize (w1.alloc (.cells #[.slice none 0 0] 61)).alloc (.cells #[.int .i64 3, .int .i64 p, .int .i64 n] 2) = wk at *
 generalize w1.heap.size + 1 = bk at *
 generalize w1.heap.size = g at *
 refine W_.mono ?_
 rintro e w2 ⟨rfl, hW, hB⟩
 have HW := Aside0.mk hW
 have HB := Aside0.mk (HBk.out.trans (hB.mono HGW.out))
 have HP := Aside0.mk ((hB.block b1 HGB.out).trans HPk.out)
 have HL0 : Aside0 (([] ++ pl 1 3 ++ pl 1 p ++ pl 1 n : List Int).length ≤ 21) := ⟨by have a := pl_len 1 3; have b := pl_len 1 p; have c_ := pl_len 1 n; simp only [List.length_append, List.length_nil]; omega⟩
 obtain ⟨q0, hq0⟩ : ∃ q0, [] ++ pl 1 3 ++ pl 1 p ++ pl 1 n = q0 := ⟨_, rfl⟩
 rw [hq0] at HW HL0
 have HQ0 := Aside0.mk hq0
 clear hW hB W_ x0 x1 x2 hq0 HBk HPk
 have y5 : w2.cell? ⟨b1, 5, none⟩ = some (.int .i64 lk) := (blk_cell HP.out 5).trans rfl
 have y6 : w2.cell? ⟨b1, 6, none⟩ = some (.bool fl) := (blk_cell HP.out 6).trans rfl
 have y0 : w2.cell? ⟨b1, 0, none⟩ = some (.int .i64 3) := (blk_cell HP.out 0).trans rfl
 go_upto_region 17 with fail
 have HBT := Aside0.mk (bit_is fl)
 go_region_with (first | (go_at_call 24; refine (frame_bit.calls fl (bitI fl) _ HBT.out).mono ?_; rintro e wd ⟨rfl, ⟨md_, rfl⟩⟩) | (go_at_call 22; refine (wplain2 1 lk (bitI fl) q0 g w2.heap.size _ ?h1 ?h2 ?h3 ?h4).mono ?_; (case h1 => exact HW.out.more (by repeat (first | exact Below.refl _ _ | apply below_alloc | apply below_drew1 | apply pw_below_drewN))); (case h2 => exact heap_alloc_new _ _); (case h3 => have := HL0.out; omega); (case h4 => simp); rintro e w3 ⟨rfl, hW, hB⟩; have hQ := (show Below w2.heap.size w2 _ from (by repeat (first | exact Below.refl _ _ | apply below_alloc | apply below_drew1 | apply pw_below_drewN))).mono (Nat.le_refl _); have hB2 := hB; have HW9 := Aside0.mk hW; have HB9 := Aside0.mk ((HB.out.trans (Below.mono ((by repeat (first | exact Below.refl _ _ | apply below_alloc | apply below_drew1 | apply pw_below_drewN)) : Below w2.heap.size w2 _) HB.out.size)).trans (hB.mono (Nat.le_trans HGW.out (Nat.le_refl g)))); have HP9 := Aside0.mk ((hB.block b1 HGB.out).trans ((((by repeat (first | exact Below.refl _ _ | apply below_alloc | apply below_drew1 | apply pw_below_drewN)) : Below w2.heap.size w2 _).block b1 (blk_lt HP.out)).trans HP.out)); clear hW hB hB2 hQ))
 all_goals
  have HW_ := HW9
  have HB_ := HB9
  have HP_ := HP9
  obtain ⟨q1, hq1⟩ : ∃ q_, q0 ++ pl 1 lk ++ pl 1 (bitI fl) = q_ := ⟨_, rfl⟩
  have HL1 : Aside0 (q1.length ≤ 35) := ⟨by rw [← hq1]; have h0 := HL0.out; have h1 := pl_len 1 lk; have h2 := pl_len 1 (bitI fl); simp only [List.length_append]; omega⟩
  rw [hq1] at HW_
  have HQ1 := Aside0.mk hq1
  clear hq1 HW HB HP HW9 HB9 HP9
  have HW := HW_
  have HB := HB_
  have HP := HP_
  clear HW_ HB_ HP_
  clear y5 y6 y0
  have y7 : w3.cell? ⟨b1, 7, none⟩ = some (.int .i64 cy) := (blk_cell HP.out 7).trans rfl
  have kb := below_alloc (Below.refl w3.heap.size w3) (.cells #[.int .i64 cy] 2)
  have W_ := wplain1 6 cy q1 g w3.heap.size (w3.alloc (.cells #[.int .i64 cy] 2)) (HW.out.more kb) (heap_alloc_new _ _) (by have := HL1.out; omega) (by simp)
  go_wp2_with fail
  refine W_.mono ?_
  rintro e w4 ⟨rfl, hW, hB⟩
  clear y7
  have HW_ := Aside0.mk hW
  have HB_ := Aside0.mk ((HB.out.trans (kb.mono HB.out.size)).trans (hB.mono (Nat.le_trans HGW.out (Nat.le_refl g))))
  have HP_ := Aside0.mk ((hB.block b1 HGB.out).trans ((kb.block b1 (blk_lt HP.out)).trans HP.out))
  obtain ⟨q2, hq2⟩ : ∃ q_, q1 ++ pl 6 cy = q_ := ⟨_, rfl⟩
  have HL2 : Aside0 (q2.length ≤ 42) := ⟨by rw [← hq2]; have h0 := HL1.out; have h1 := pl_len 6 cy; simp only [List.length_append]; omega⟩
  rw [hq2] at HW_
  have HQ2 := Aside0.mk hq2
  clear hW hB hq2 HW HB HP kb W_
  have HW := HW_
  have HB := HB_
  have HP := HP_
  clear HW_ HB_ HP_
  have y8 : w4.cell? ⟨b1, 8, none⟩ = some (.int .i64 of_) := (blk_cell HP.out 8).trans rfl
  have W_ := wsigned 6 of_ q2 g w4 HW.out (by have := HL2.out; omega) HOF.out
  go_wp2_with fail
  refine W_.mono ?_
  rintro e w5 ⟨rfl, hW, hB⟩
  clear y8
  have HW_ := Aside0.mk hW
  have HB_ := Aside0.mk (HB.out.trans (hB.mono (Nat.le_trans HGW.out (Nat.le_refl g))))
  have HP_ := Aside0.mk ((hB.block b1 HGB.out).trans HP.out)
  obtain ⟨q3, hq3⟩ : ∃ q_, q2 ++ sg 6 of_ = q_ := ⟨_, rfl⟩
  have HL3 : Aside0 (q3.length ≤ 49) := ⟨by rw [← hq3]; have h0 := HL2.out; have h1 := sg_len 6 of_; simp only [List.length_append]; omega⟩
  rw [hq3] at HW_
  have HQ3 := Aside0.mk hq3
  clear hW hB hq3 HW HB HP W_
  have HW := HW_
  have HB := HB_
  have HP := HP_
  clear HW_ HB_ HP_
  have hfin : q3 = pl 1 3 ++ pl 1 p ++ pl 1 n ++ (pl 1 lk ++ pl 1 (bitI fl) ++ pl 6 cy ++ sg 6 of_) := by rw [← HQ3.out, ← HQ2.out, ← HQ1.out, ← HQ0.out]; simp only [List.nil_append, List.append_assoc]
  have hbys : Bys q3 := by rw [hfin]; exact bys_append (bys_append (bys_append (pl_bys _ _) (pl_bys _ _)) (pl_bys _ _)) (bys_append (bys_append (bys_append (pl_bys _ _) (pl_bys _ _)) (pl_bys _ _)) (sg_bys _ _))
  obtain ⟨ks, hks⟩ := (seal_evl hbys (by have := HL3.out; omega)).some_
  rw [hfin] at hks
  obtain ⟨z, hz⟩ : ∃ z, sld (pl 1 3 ++ pl 1 p ++ pl 1 n ++ (pl 1 lk ++ pl 1 (bitI fl) ++ pl 6 cy ++ sg 6 of_)) = z := ⟨_, rfl⟩
  rw [hz] at hks
  have HZ := Aside0.mk hz
  obtain ⟨A_, c_, hgb, hgr⟩ := HW.out
  have hC := (Kd.R_reads' hgr).2.2
  have hcc := (Kd.R_reads' hgr).2.1
  have W_ := sum_Seal.calls ks A_ c_ q3 z w5 hC hcc (by rw [hfin]; exact hks)
  have gc : w5.cell? ⟨g, 0, none⟩ = some (.slice A_ q3.length c_) := (blk_cell hgb 0).trans rfl
  clear hfin hbys hks hC hcc hgb hgr hz
  go_wp2_with fail
  refine W_.mono ?_
  rintro e wz ⟨v, rfl, ho, hb⟩
  obtain ⟨Az, cz, rfl⟩ := Kd.R_slice ho
  have HO := Aside0.mk ho
  have HBz := Aside0.mk (below_step HB.out hb)
  have HSz := Aside0.mk HB.out.size
  clear ho hb W_ gc
  go_wp2_with fail
  go_ret2
  rw [HZ.out]
  exact ⟨_, rfl, Kd.R_lower HO.out HSz.out, HBz.out⟩
set_option maxHeartbeats 8000000 in
theorem enc4 (p n wt mk lk : Int) (fl : Bool) (cy of_ : Int) (A9 : Option Addr) (c9 : Nat) (ag : List Int) (f1 f2 sq : Int) (A13 : Option Addr) (c13 : Nat) (bd : List Int) (w : World) (hM : ∀ W, Below w.heap.size w W → Calls Tryz.prog 21 #[.agg #[.int .i64 4, .int .i64 p, .int .i64 n, .int .i64 wt, .int .i64 mk, .int .i64 lk, .bool fl, .int .i64 cy, .int .i64 of_, .slice A9 ag.length c9, .int .i64 f1, .int .i64 f2, .int .i64 sq, .slice A13 bd.length c13]] W fun e w' => e = .returned (.bool true) ∧ Below W.heap.size W w') (h9 : Kd.C (Kd.int .i64) w A9 ag.length ag) (q9 : ag.length ≤ c9) (hl : ag.length ≤ 1000) :
  Calls Tryz.prog 13 #[.agg #[.int .i64 4, .int .i64 p, .int .i64 n, .int .i64 wt, .int .i64 mk, .int .i64 lk, .bool fl, .int .i64 cy, .int .i64 of_, .slice A9 ag.length c9, .int .i64 f1, .int .i64 f2, .int .i64 sq, .slice A13 bd.length c13]] w fun e w' => ∃ v, e = .returned (.tuple #[v, .int .i64 0]) ∧ Kd.R (Kd.int .u8) 5 w' w.heap.size (fun _ => True) v (sld (pl 1 4 ++ pl 1 p ++ pl 1 n ++ (pl 1 lk ++ agesB ag))) ∧ Below w.heap.size w w' := by
 have H9 := Aside0.mk h9
 have Q9 := Aside0.mk q9
 have HL := Aside0.mk hl
 clear h9 q9 hl
 have HM := Aside0.mk (hM _ (below_alloc (Below.refl w.heap.size w) (.cells #[.int .i64 4, .int .i64 p, .int .i64 n, .int .i64 wt, .int .i64 mk, .int .i64 lk, .bool fl, .int .i64 cy, .int .i64 of_, .slice A9 ag.length c9, .int .i64 f1, .int .i64 f2, .int .i64 sq, .slice A13 bd.length c13] 26)))
 clear hM
 go_enter Tryz.func13, Tryz.ntmps13
 go_wp2_with fail
 refine HM.out.mono ?_
 rintro e w1 ⟨rfl, hb⟩
 have kb := below_alloc (Below.refl w.heap.size w) (.cells #[.int .i64 4, .int .i64 p, .int .i64 n, .int .i64 wt, .int .i64 mk, .int .i64 lk, .bool fl, .int .i64 cy, .int .i64 of_, .slice A9 ag.length c9, .int .i64 f1, .int .i64 f2, .int .i64 sq, .slice A13 bd.length c13] 26)
 have HB0 := Aside0.mk (below_step kb hb)
 have HP0 : Aside0 (w1.heap[w.heap.size]? = some (.cells #[.int .i64 4, .int .i64 p, .int .i64 n, .int .i64 wt, .int .i64 mk, .int .i64 lk, .bool fl, .int .i64 cy, .int .i64 of_, .slice A9 ag.length c9, .int .i64 f1, .int .i64 f2, .int .i64 sq, .slice A13 bd.length c13] 26 (0, 0))) := ⟨(hb.block w.heap.size (blk_lt (heap_alloc_new w _))).trans (heap_alloc_new w _)⟩
 obtain ⟨b1, hb1⟩ : ∃ b1, b1 = w.heap.size := ⟨_, rfl⟩
 rw [← hb1] at HP0
 rw [← hb1]
 have HB1 := Aside0.mk hb1
 clear hb kb hb1 HM
 have x0 : ∀ o : Obj, (w1.alloc o).cell? ⟨b1, 0, none⟩ = some (.int .i64 4) := fun o => (blk_cell ((Below.heap_alloc w1 o b1 (blk_lt HP0.out)).trans HP0.out) 0).trans rfl
 have x1 : ∀ o : Obj, (w1.alloc o).cell? ⟨b1, 1, none⟩ = some (.int .i64 p) := fun o => (blk_cell ((Below.heap_alloc w1 o b1 (blk_lt HP0.out)).trans HP0.out) 1).trans rfl
 have x2 : ∀ o : Obj, (w1.alloc o).cell? ⟨b1, 2, none⟩ = some (.int .i64 n) := fun o => (blk_cell ((Below.heap_alloc w1 o b1 (blk_lt HP0.out)).trans HP0.out) 2).trans rfl
 go_wp2_with fail
 have kw := below_alloc (Below.refl w1.heap.size w1) (.cells #[.slice none 0 0] 61)
 have HW0 : Aside0 (Wr (w1.alloc (.cells #[.slice none 0 0] 61)) (w1.heap.size + 1) w1.heap.size []) := ⟨⟨none, 0, heap_alloc_new w1 _, Kd.R_nil _ _ _ _ _⟩⟩
 have kb := below_alloc (Below.refl (w1.alloc (.cells #[.slice none 0 0] 61)).heap.size (w1.alloc (.cells #[.slice none 0 0] 61))) (.cells #[.int .i64 4, .int .i64 p, .int .i64 n] 2)
 have hsz : (w1.alloc (.cells #[.slice none 0 0] 61)).heap.size = w1.heap.size + 1 := by simp
 have W_ := wplain3 1 4 p n [] w1.heap.size (w1.heap.size + 1) ((w1.alloc (.cells #[.slice none 0 0] 61)).alloc (.cells #[.int .i64 4, .int .i64 p, .int .i64 n] 2)) (HW0.out.more kb) (by have h := heap_alloc_new (w1.alloc (.cells #[.slice none 0 0] 61)) (.cells #[.int .i64 4, .int .i64 p, .int .i64 n] 2); rw [hsz] at h; exact h) (by simp) (by simp)
 have HPk := Aside0.mk ((kb.block b1 (Nat.lt_of_lt_of_le (blk_lt HP0.out) kw.size)).trans ((kw.block b1 (blk_lt HP0.out)).trans HP0.out))
 have HBk := Aside0.mk (below_step (below_step HB0.out kw) kb)
 have HGB := Aside0.mk (blk_lt HP0.out)
 have HGW := Aside0.mk HB0.out.size
 clear kw kb hsz HW0
 generalize (w1.alloc (.cells #[.slice none 0 0] 61)).alloc (.cells #[.int .i64 4, .int .i64 p, .int .i64 n] 2) = wk at *
 generalize w1.heap.size + 1 = bk at *
 generalize w1.heap.size = g at *
 refine W_.mono ?_
 rintro e w2 ⟨rfl, hW, hB⟩
 have HW := Aside0.mk hW
 have HB := Aside0.mk (HBk.out.trans (hB.mono HGW.out))
 have HP := Aside0.mk ((hB.block b1 HGB.out).trans HPk.out)
 have HL0 : Aside0 (([] ++ pl 1 4 ++ pl 1 p ++ pl 1 n : List Int).length ≤ 21) := ⟨by have a := pl_len 1 4; have b := pl_len 1 p; have c_ := pl_len 1 n; simp only [List.length_append, List.length_nil]; omega⟩
 obtain ⟨q0, hq0⟩ : ∃ q0, [] ++ pl 1 4 ++ pl 1 p ++ pl 1 n = q0 := ⟨_, rfl⟩
 rw [hq0] at HW HL0
 have HQ0 := Aside0.mk hq0
 clear hW hB W_ x0 x1 x2 hq0 HBk HPk
 have y5 : w2.cell? ⟨b1, 5, none⟩ = some (.int .i64 lk) := (blk_cell HP.out 5).trans rfl
 have y0 : w2.cell? ⟨b1, 0, none⟩ = some (.int .i64 4) := (blk_cell HP.out 0).trans rfl
 have kb := below_alloc (Below.refl w2.heap.size w2) (.cells #[.int .i64 lk] 2)
 have W_ := wplain1 1 lk q0 g w2.heap.size (w2.alloc (.cells #[.int .i64 lk] 2)) (HW.out.more kb) (heap_alloc_new _ _) (by have := HL0.out; omega) (by simp)
 go_wp2_with fail
 refine W_.mono ?_
 rintro e w3 ⟨rfl, hW, hB⟩
 clear y5 y0
 have HW_ := Aside0.mk hW
 have HB_ := Aside0.mk ((HB.out.trans (kb.mono HB.out.size)).trans (hB.mono (Nat.le_trans HGW.out (Nat.le_refl g))))
 have HP_ := Aside0.mk ((hB.block b1 HGB.out).trans ((kb.block b1 (blk_lt HP.out)).trans HP.out))
 obtain ⟨q1, hq1⟩ : ∃ q_, q0 ++ pl 1 lk = q_ := ⟨_, rfl⟩
 have HL1 : Aside0 (q1.length ≤ 28) := ⟨by rw [← hq1]; have h0 := HL0.out; have h1 := pl_len 1 lk; simp only [List.length_append]; omega⟩
 rw [hq1] at HW_
 have HQ1 := Aside0.mk hq1
 clear hW hB hq1 HW HB HP kb W_
 have HW := HW_
 have HB := HB_
 have HP := HP_
 clear HW_ HB_ HP_
 have y9 : w3.cell? ⟨b1, 9, none⟩ = some (.slice A9 ag.length c9) := (blk_cell HP.out 9).trans rfl
 have W_ := wages A9 c9 ag q1 g g w3 HW.out (fun W hW => Kd.C_below H9.out (HB.out.trans (hW.mono HGW.out))) Q9.out HL.out (by have := HL1.out; omega)
 go_wp2_with fail
 refine W_.mono ?_
 rintro e w4 ⟨rfl, hW, hB⟩
 clear y9
 have HW_ := Aside0.mk hW
 have HB_ := Aside0.mk (HB.out.trans (hB.mono (Nat.le_trans HGW.out (Nat.le_refl g))))
 have HP_ := Aside0.mk ((hB.block b1 HGB.out).trans HP.out)
 obtain ⟨q2, hq2⟩ : ∃ q_, q1 ++ agesB ag = q_ := ⟨_, rfl⟩
 have HL2 : Aside0 (q2.length ≤ 7128) := ⟨by rw [← hq2]; have h0 := HL1.out; have h1 := agesB_len ag; have h2 := pl_len 1 (ag.length : Int); have h3 := HL.out; unfold agesB; simp only [List.length_append]; omega⟩
 rw [hq2] at HW_
 have HQ2 := Aside0.mk hq2
 clear hW hB hq2 HW HB HP W_
 have HW := HW_
 have HB := HB_
 have HP := HP_
 clear HW_ HB_ HP_
 have hfin : q2 = pl 1 4 ++ pl 1 p ++ pl 1 n ++ (pl 1 lk ++ agesB ag) := by rw [← HQ2.out, ← HQ1.out, ← HQ0.out]; simp only [List.nil_append, List.append_assoc]
 have hbys : Bys q2 := by rw [hfin]; exact bys_append (bys_append (bys_append (pl_bys _ _) (pl_bys _ _)) (pl_bys _ _)) (bys_append (pl_bys _ _) (agesB_bys _))
 obtain ⟨ks, hks⟩ := (seal_evl hbys (by have := HL2.out; omega)).some_
 rw [hfin] at hks
 obtain ⟨z, hz⟩ : ∃ z, sld (pl 1 4 ++ pl 1 p ++ pl 1 n ++ (pl 1 lk ++ agesB ag)) = z := ⟨_, rfl⟩
 rw [hz] at hks
 have HZ := Aside0.mk hz
 obtain ⟨A_, c_, hgb, hgr⟩ := HW.out
 have hC := (Kd.R_reads' hgr).2.2
 have hcc := (Kd.R_reads' hgr).2.1
 have W_ := sum_Seal.calls ks A_ c_ q2 z w4 hC hcc (by rw [hfin]; exact hks)
 have gc : w4.cell? ⟨g, 0, none⟩ = some (.slice A_ q2.length c_) := (blk_cell hgb 0).trans rfl
 clear hfin hbys hks hC hcc hgb hgr hz
 go_wp2_with fail
 refine W_.mono ?_
 rintro e wz ⟨v, rfl, ho, hb⟩
 obtain ⟨Az, cz, rfl⟩ := Kd.R_slice ho
 have HO := Aside0.mk ho
 have HBz := Aside0.mk (below_step HB.out hb)
 have HSz := Aside0.mk HB.out.size
 clear ho hb W_ gc
 go_wp2_with fail
 go_ret2
 rw [HZ.out]
 exact ⟨_, rfl, Kd.R_lower HO.out HSz.out, HBz.out⟩
set_option maxHeartbeats 8000000 in
theorem enc5 (p n wt mk lk : Int) (fl : Bool) (cy of_ : Int) (A9 : Option Addr) (c9 : Nat) (ag : List Int) (f1 f2 sq : Int) (A13 : Option Addr) (c13 : Nat) (bd : List Int) (w : World) (hM : ∀ W, Below w.heap.size w W → Calls Tryz.prog 21 #[.agg #[.int .i64 5, .int .i64 p, .int .i64 n, .int .i64 wt, .int .i64 mk, .int .i64 lk, .bool fl, .int .i64 cy, .int .i64 of_, .slice A9 ag.length c9, .int .i64 f1, .int .i64 f2, .int .i64 sq, .slice A13 bd.length c13]] W fun e w' => e = .returned (.bool true) ∧ Below W.heap.size W w') (h13 : Kd.C (Kd.int .u8) w A13 bd.length bd) (q13 : bd.length ≤ c13) (hl : bd.length ≤ 1000) (hbd : Bys bd) :
  Calls Tryz.prog 13 #[.agg #[.int .i64 5, .int .i64 p, .int .i64 n, .int .i64 wt, .int .i64 mk, .int .i64 lk, .bool fl, .int .i64 cy, .int .i64 of_, .slice A9 ag.length c9, .int .i64 f1, .int .i64 f2, .int .i64 sq, .slice A13 bd.length c13]] w fun e w' => ∃ v, e = .returned (.tuple #[v, .int .i64 0]) ∧ Kd.R (Kd.int .u8) 5 w' w.heap.size (fun _ => True) v (sld (pl 1 5 ++ pl 1 p ++ pl 1 n ++ (pl 1 lk ++ pl 1 f1 ++ pl 1 f2 ++ pl 4 sq ++ pl 1 bd.length ++ bd))) ∧ Below w.heap.size w w' := by
 have H13 := Aside0.mk h13
 have Q13 := Aside0.mk q13
 have HL := Aside0.mk hl
 have HBD := Aside0.mk hbd
 clear h13 q13 hl hbd
 have HM := Aside0.mk (hM _ (below_alloc (Below.refl w.heap.size w) (.cells #[.int .i64 5, .int .i64 p, .int .i64 n, .int .i64 wt, .int .i64 mk, .int .i64 lk, .bool fl, .int .i64 cy, .int .i64 of_, .slice A9 ag.length c9, .int .i64 f1, .int .i64 f2, .int .i64 sq, .slice A13 bd.length c13] 26)))
 clear hM
 go_enter Tryz.func13, Tryz.ntmps13
 go_wp2_with fail
 refine HM.out.mono ?_
 rintro e w1 ⟨rfl, hb⟩
 have kb := below_alloc (Below.refl w.heap.size w) (.cells #[.int .i64 5, .int .i64 p, .int .i64 n, .int .i64 wt, .int .i64 mk, .int .i64 lk, .bool fl, .int .i64 cy, .int .i64 of_, .slice A9 ag.length c9, .int .i64 f1, .int .i64 f2, .int .i64 sq, .slice A13 bd.length c13] 26)
 have HB0 := Aside0.mk (below_step kb hb)
 have HP0 : Aside0 (w1.heap[w.heap.size]? = some (.cells #[.int .i64 5, .int .i64 p, .int .i64 n, .int .i64 wt, .int .i64 mk, .int .i64 lk, .bool fl, .int .i64 cy, .int .i64 of_, .slice A9 ag.length c9, .int .i64 f1, .int .i64 f2, .int .i64 sq, .slice A13 bd.length c13] 26 (0, 0))) := ⟨(hb.block w.heap.size (blk_lt (heap_alloc_new w _))).trans (heap_alloc_new w _)⟩
 obtain ⟨b1, hb1⟩ : ∃ b1, b1 = w.heap.size := ⟨_, rfl⟩
 rw [← hb1] at HP0
 rw [← hb1]
 have HB1 := Aside0.mk hb1
 clear hb kb hb1 HM
 have x0 : ∀ o : Obj, (w1.alloc o).cell? ⟨b1, 0, none⟩ = some (.int .i64 5) := fun o => (blk_cell ((Below.heap_alloc w1 o b1 (blk_lt HP0.out)).trans HP0.out) 0).trans rfl
 have x1 : ∀ o : Obj, (w1.alloc o).cell? ⟨b1, 1, none⟩ = some (.int .i64 p) := fun o => (blk_cell ((Below.heap_alloc w1 o b1 (blk_lt HP0.out)).trans HP0.out) 1).trans rfl
 have x2 : ∀ o : Obj, (w1.alloc o).cell? ⟨b1, 2, none⟩ = some (.int .i64 n) := fun o => (blk_cell ((Below.heap_alloc w1 o b1 (blk_lt HP0.out)).trans HP0.out) 2).trans rfl
 go_wp2_with fail
 have kw := below_alloc (Below.refl w1.heap.size w1) (.cells #[.slice none 0 0] 61)
 have HW0 : Aside0 (Wr (w1.alloc (.cells #[.slice none 0 0] 61)) (w1.heap.size + 1) w1.heap.size []) := ⟨⟨none, 0, heap_alloc_new w1 _, Kd.R_nil _ _ _ _ _⟩⟩
 have kb := below_alloc (Below.refl (w1.alloc (.cells #[.slice none 0 0] 61)).heap.size (w1.alloc (.cells #[.slice none 0 0] 61))) (.cells #[.int .i64 5, .int .i64 p, .int .i64 n] 2)
 have hsz : (w1.alloc (.cells #[.slice none 0 0] 61)).heap.size = w1.heap.size + 1 := by simp
 have W_ := wplain3 1 5 p n [] w1.heap.size (w1.heap.size + 1) ((w1.alloc (.cells #[.slice none 0 0] 61)).alloc (.cells #[.int .i64 5, .int .i64 p, .int .i64 n] 2)) (HW0.out.more kb) (by have h := heap_alloc_new (w1.alloc (.cells #[.slice none 0 0] 61)) (.cells #[.int .i64 5, .int .i64 p, .int .i64 n] 2); rw [hsz] at h; exact h) (by simp) (by simp)
 have HPk := Aside0.mk ((kb.block b1 (Nat.lt_of_lt_of_le (blk_lt HP0.out) kw.size)).trans ((kw.block b1 (blk_lt HP0.out)).trans HP0.out))
 have HBk := Aside0.mk (below_step (below_step HB0.out kw) kb)
 have HGB := Aside0.mk (blk_lt HP0.out)
 have HGW := Aside0.mk HB0.out.size
 clear kw kb hsz HW0
 generalize (w1.alloc (.cells #[.slice none 0 0] 61)).alloc (.cells #[.int .i64 5, .int .i64 p, .int .i64 n] 2) = wk at *
 generalize w1.heap.size + 1 = bk at *
 generalize w1.heap.size = g at *
 refine W_.mono ?_
 rintro e w2 ⟨rfl, hW, hB⟩
 have HW := Aside0.mk hW
 have HB := Aside0.mk (HBk.out.trans (hB.mono HGW.out))
 have HP := Aside0.mk ((hB.block b1 HGB.out).trans HPk.out)
 have HL0 : Aside0 (([] ++ pl 1 5 ++ pl 1 p ++ pl 1 n : List Int).length ≤ 21) := ⟨by have a := pl_len 1 5; have b := pl_len 1 p; have c_ := pl_len 1 n; simp only [List.length_append, List.length_nil]; omega⟩
 obtain ⟨q0, hq0⟩ : ∃ q0, [] ++ pl 1 5 ++ pl 1 p ++ pl 1 n = q0 := ⟨_, rfl⟩
 rw [hq0] at HW HL0
 have HQ0 := Aside0.mk hq0
 clear hW hB W_ x0 x1 x2 hq0 HBk HPk
 have y5 : w2.cell? ⟨b1, 5, none⟩ = some (.int .i64 lk) := (blk_cell HP.out 5).trans rfl
 have y10 : w2.cell? ⟨b1, 10, none⟩ = some (.int .i64 f1) := (blk_cell HP.out 10).trans rfl
 have y11 : w2.cell? ⟨b1, 11, none⟩ = some (.int .i64 f2) := (blk_cell HP.out 11).trans rfl
 have y0 : w2.cell? ⟨b1, 0, none⟩ = some (.int .i64 5) := (blk_cell HP.out 0).trans rfl
 have kb := below_alloc (Below.refl w2.heap.size w2) (.cells #[.int .i64 lk, .int .i64 f1, .int .i64 f2] 2)
 have W_ := wplain3 1 lk f1 f2 q0 g w2.heap.size (w2.alloc (.cells #[.int .i64 lk, .int .i64 f1, .int .i64 f2] 2)) (HW.out.more kb) (heap_alloc_new _ _) (by have := HL0.out; omega) (by simp)
 go_wp2_with fail
 refine W_.mono ?_
 rintro e w3 ⟨rfl, hW, hB⟩
 clear y5 y10 y11 y0
 have HW_ := Aside0.mk hW
 have HB_ := Aside0.mk ((HB.out.trans (kb.mono HB.out.size)).trans (hB.mono (Nat.le_trans HGW.out (Nat.le_refl g))))
 have HP_ := Aside0.mk ((hB.block b1 HGB.out).trans ((kb.block b1 (blk_lt HP.out)).trans HP.out))
 obtain ⟨q1, hq1⟩ : ∃ q_, q0 ++ pl 1 lk ++ pl 1 f1 ++ pl 1 f2 = q_ := ⟨_, rfl⟩
 have HL1 : Aside0 (q1.length ≤ 42) := ⟨by rw [← hq1]; have h0 := HL0.out; have h1 := pl_len 1 lk; have h2 := pl_len 1 f1; have h3 := pl_len 1 f2; simp only [List.length_append]; omega⟩
 rw [hq1] at HW_
 have HQ1 := Aside0.mk hq1
 clear hW hB hq1 HW HB HP kb W_
 have HW := HW_
 have HB := HB_
 have HP := HP_
 clear HW_ HB_ HP_
 have y12 : w3.cell? ⟨b1, 12, none⟩ = some (.int .i64 sq) := (blk_cell HP.out 12).trans rfl
 have kb := below_alloc (Below.refl w3.heap.size w3) (.cells #[.int .i64 sq] 2)
 have W_ := wplain1 4 sq q1 g w3.heap.size (w3.alloc (.cells #[.int .i64 sq] 2)) (HW.out.more kb) (heap_alloc_new _ _) (by have := HL1.out; omega) (by simp)
 go_wp2_with fail
 refine W_.mono ?_
 rintro e w4 ⟨rfl, hW, hB⟩
 clear y12
 have HW_ := Aside0.mk hW
 have HB_ := Aside0.mk ((HB.out.trans (kb.mono HB.out.size)).trans (hB.mono (Nat.le_trans HGW.out (Nat.le_refl g))))
 have HP_ := Aside0.mk ((hB.block b1 HGB.out).trans ((kb.block b1 (blk_lt HP.out)).trans HP.out))
 obtain ⟨q2, hq2⟩ : ∃ q_, q1 ++ pl 4 sq = q_ := ⟨_, rfl⟩
 have HL2 : Aside0 (q2.length ≤ 49) := ⟨by rw [← hq2]; have h0 := HL1.out; have h1 := pl_len 4 sq; simp only [List.length_append]; omega⟩
 rw [hq2] at HW_
 have HQ2 := Aside0.mk hq2
 clear hW hB hq2 HW HB HP kb W_
 have HW := HW_
 have HB := HB_
 have HP := HP_
 clear HW_ HB_ HP_
 have y13 : w4.cell? ⟨b1, 13, none⟩ = some (.slice A13 bd.length c13) := (blk_cell HP.out 13).trans rfl
 have kb := below_alloc (Below.refl w4.heap.size w4) (.cells #[.int .i64 (bd.length : Int)] 2)
 have W_ := wplain1 1 (bd.length : Int) q2 g w4.heap.size (w4.alloc (.cells #[.int .i64 (bd.length : Int)] 2)) (HW.out.more kb) (heap_alloc_new _ _) (by have := HL2.out; omega) (by simp)
 go_wp2_with fail
 refine W_.mono ?_
 rintro e w5 ⟨rfl, hW, hB⟩
 clear y13
 have HW_ := Aside0.mk hW
 have HB_ := Aside0.mk ((HB.out.trans (kb.mono HB.out.size)).trans (hB.mono (Nat.le_trans HGW.out (Nat.le_refl g))))
 have HP_ := Aside0.mk ((hB.block b1 HGB.out).trans ((kb.block b1 (blk_lt HP.out)).trans HP.out))
 obtain ⟨q3, hq3⟩ : ∃ q_, q2 ++ pl 1 (bd.length : Int) = q_ := ⟨_, rfl⟩
 have HL3 : Aside0 (q3.length ≤ 56) := ⟨by rw [← hq3]; have h0 := HL2.out; have h1 := pl_len 1 (bd.length : Int); simp only [List.length_append]; omega⟩
 rw [hq3] at HW_
 have HQ3 := Aside0.mk hq3
 clear hW hB hq3 HW HB HP kb W_
 have HW := HW_
 have HB := HB_
 have HP := HP_
 clear HW_ HB_ HP_
 have y13 : w5.cell? ⟨b1, 13, none⟩ = some (.slice A13 bd.length c13) := (blk_cell HP.out 13).trans rfl
 obtain ⟨A_, c_, hgb, hgr⟩ := HW.out
 have HGBl := Aside0.mk hgb
 have HO := Aside0.mk (show Kd.R (Kd.int .u8) 5 w5.drew (g + 1) (fun _ => True) (.slice A_ q3.length c_) q3 from Kd.R_mono hgr (fun _ _ => trivial))
 have HG1 := Aside0.mk (show g + 1 ≤ w5.heap.size from blk_lt hgb)
 have HRB := Aside0.mk (Kd.R_base hgr)
 have gc : w5.cell? ⟨g, 0, none⟩ = some (.slice A_ q3.length c_) := (blk_cell hgb 0).trans rfl
 have HCb := Aside0.mk (Kd.C_drew (Kd.C_below H13.out HB.out))
 obtain ⟨q4, hq4⟩ : ∃ q_, q3 ++ bd = q_ := ⟨_, rfl⟩
 have HQ4 := Aside0.mk hq4
 clear hgb hgr hq4
 go_upto_region 9 with fail
 go_region_law (refine Kd.R_append_rows_step (Kd.int .u8) (w0 := w5.drew) (g + 1) ?aW (.tmp 45) (.tmp 47) 22 5 (.int .u8 0) 1 rfl Tryz.underlying22 winfo5 rfl (by decide) (by omega) (.slice A_ q3.length c_) q3 bd _ _ _ (fun _ => True) (fun _ => False) rfl rfl ?aO ?aR (fun _ _ h => h) (fun _ h => h.elim) ?aF ?aB ?aS ?aL ?_; (case aW => first | rfl | decide | simp [Region.wanted]); (case aR => exact HCb.out); (case aB => exact Below.refl _ _); (case aF => exact (fun _ _ => trivial)); (case aO => exact HO.out); (case aS => exact HG1.out); (case aL => have := HL3.out; have := HL.out; omega); intro v w9 ho hb hg hat; rw [HQ4.out] at ho; obtain ⟨An_, cn_, rfl⟩ := Kd.R_slice ho; have HO1 := Aside0.mk ho; have HB1_ := Aside0.mk (drew_below hb); have HGn := Aside0.mk ((hg.block g (blk_lt HGBl.out) (by intro e_; have := HRB.out g e_.symm; omega)).trans HGBl.out); have gy0 : w9.cell? ⟨g, 0, none⟩ = some (.slice A_ q3.length c_) := (blk_cell HGn.out 0).trans rfl; have gf0 : w9.frozen? ⟨g, 0, none⟩ = false := blk_frozen HGn.out 0; clear ho hb hg hat)
 all_goals
  have HW_ : Aside0 (Wr (w9.setCell ⟨g, 0, none⟩ (.slice An_ q4.length cn_)) (w9.setCell ⟨g, 0, none⟩ (.slice An_ q4.length cn_)).heap.size g q4) := ⟨⟨_, _, blk_put HGn.out 0 _ rfl, Kd.R_mono (Kd.R_bound (Kd.R_far (p := ⟨g, 0, none⟩) (Kd.R_bound HO1.out) (fun k hk => by have := hk.2.1; show k ≠ g; omega) (.slice An_ q4.length cn_))) (fun k hk => hk.2.2.1)⟩⟩
  have HB_ := Aside0.mk ((HB.out.trans (HB1_.out.mono (Nat.le_trans HGW.out (Nat.le_succ g)))).setCell (p := ⟨g, 0, none⟩) HGW.out (.slice An_ q4.length cn_))
  have HL4 : Aside0 (q4.length ≤ 2000) := ⟨by rw [← HQ4.out]; have h0 := HL3.out; have h1 := HL.out; simp only [List.length_append]; omega⟩
  clear HW HB HP gy0 gf0 gc HO1 HB1_ HGn HO HG1 HRB HCb HGBl
  have HW := HW_
  have HB := HB_
  clear HW_ HB_
  generalize w9.setCell ⟨g, 0, none⟩ (.slice An_ q4.length cn_) = w10 at *
  clear y13
  have hfin : q4 = pl 1 5 ++ pl 1 p ++ pl 1 n ++ (pl 1 lk ++ pl 1 f1 ++ pl 1 f2 ++ pl 4 sq ++ pl 1 bd.length ++ bd) := by rw [← HQ4.out, ← HQ3.out, ← HQ2.out, ← HQ1.out, ← HQ0.out]; simp only [List.nil_append, List.append_assoc]
  have hbys : Bys q4 := by rw [hfin]; exact bys_append (bys_append (bys_append (pl_bys _ _) (pl_bys _ _)) (pl_bys _ _)) (bys_append (bys_append (bys_append (bys_append (bys_append (pl_bys _ _) (pl_bys _ _)) (pl_bys _ _)) (pl_bys _ _)) (pl_bys _ _)) (HBD.out))
  obtain ⟨ks, hks⟩ := (seal_evl hbys (by have := HL4.out; omega)).some_
  rw [hfin] at hks
  obtain ⟨z, hz⟩ : ∃ z, sld (pl 1 5 ++ pl 1 p ++ pl 1 n ++ (pl 1 lk ++ pl 1 f1 ++ pl 1 f2 ++ pl 4 sq ++ pl 1 bd.length ++ bd)) = z := ⟨_, rfl⟩
  rw [hz] at hks
  have HZ := Aside0.mk hz
  obtain ⟨A_, c_, hgb, hgr⟩ := HW.out
  have hC := (Kd.R_reads' hgr).2.2
  have hcc := (Kd.R_reads' hgr).2.1
  have W_ := sum_Seal.calls ks A_ c_ q4 z w10 hC hcc (by rw [hfin]; exact hks)
  have gc : w10.cell? ⟨g, 0, none⟩ = some (.slice A_ q4.length c_) := (blk_cell hgb 0).trans rfl
  clear hfin hbys hks hC hcc hgb hgr hz
  go_wp2_with fail
  refine W_.mono ?_
  rintro e wz ⟨v, rfl, ho, hb⟩
  obtain ⟨Az, cz, rfl⟩ := Kd.R_slice ho
  have HO := Aside0.mk ho
  have HBz := Aside0.mk (below_step HB.out hb)
  have HSz := Aside0.mk HB.out.size
  clear ho hb W_ gc
  go_wp2_with fail
  go_ret2
  rw [HZ.out]
  exact ⟨_, rfl, Kd.R_lower HO.out HSz.out, HBz.out⟩
def encP (k p n wt mk lk : Int) (fl : Bool) (cy of_ : Int) (ag : List Int) (f1 f2 sq : Int) (bd : List Int) : List Int :=
 if k = 1 then pl 1 1 ++ pl 1 p ++ pl 1 n ++ (pl 2 wt)
 else if k = 2 then pl 1 2 ++ pl 1 p ++ pl 1 n ++ (pl 6 cy ++ pl 2 mk ++ agesB ag)
 else if k = 3 then pl 1 3 ++ pl 1 p ++ pl 1 n ++ (pl 1 lk ++ pl 1 (bitI fl) ++ pl 6 cy ++ sg 6 of_)
 else if k = 4 then pl 1 4 ++ pl 1 p ++ pl 1 n ++ (pl 1 lk ++ agesB ag)
 else pl 1 5 ++ pl 1 p ++ pl 1 n ++ (pl 1 lk ++ pl 1 f1 ++ pl 1 f2 ++ pl 4 sq ++ pl 1 bd.length ++ bd)
def frame_Encode.f (kf : Nat) (k p n wt mk lk : Int) (fl : Bool) (cy of_ : Int) (ag : List Int) (f1 f2 sq : Int) (bd : List Int) : Option (List Int × Int) :=
 (frame_May.f kf k p n wt mk lk fl cy of_ ag f1 f2 sq bd).bind fun m => if m = true then (if bd.all (fun x => decide (0 ≤ x ∧ x ≤ 255)) = true ∧ -9223372036854775808 ≤ of_ ∧ of_ ≤ 9223372036854775807 then some (sld (encP k p n wt mk lk fl cy of_ ag f1 f2 sq bd), 0) else none) else some ([], 1)
theorem agesOk_len {l : List Int} (h : agesOk l = true) : l.length ≤ 6 := by
 unfold agesOk at h
 simp only [Bool.and_eq_true, decide_eq_true_eq] at h
 exact h.1.2
theorem frame_Encode.calls (k : Nat) (a0_0 a0_1 a0_2 a0_3 a0_4 a0_5 : Int) (a0_6 : Bool) (a0_7 a0_8 : Int) (A0_9 : Option Addr) (c0_9 : Nat) (l0_9 : List Int) (a0_10 a0_11 a0_12 : Int) (A0_13 : Option Addr) (c0_13 : Nat) (l0_13 : List Int) (r1 : List Int) (r2 : Int) (w : World) (hr0_9 : Kd.C (Kd.int .i64) w A0_9 l0_9.length l0_9) (hc0_9 : l0_9.length ≤ c0_9) (hr0_13 : Kd.C (Kd.int .u8) w A0_13 l0_13.length l0_13) (hc0_13 : l0_13.length ≤ c0_13) (h : frame_Encode.f k a0_0 a0_1 a0_2 a0_3 a0_4 a0_5 a0_6 a0_7 a0_8 l0_9 a0_10 a0_11 a0_12 l0_13 = some (r1, r2)) :
  Calls Tryz.prog 13 #[.agg #[.int .i64 a0_0, .int .i64 a0_1, .int .i64 a0_2, .int .i64 a0_3, .int .i64 a0_4, .int .i64 a0_5, .bool a0_6, .int .i64 a0_7, .int .i64 a0_8, .slice A0_9 l0_9.length c0_9, .int .i64 a0_10, .int .i64 a0_11, .int .i64 a0_12, .slice A0_13 l0_13.length c0_13]] w fun e w' => ∃ v0_ : Value, e = .returned (.tuple #[v0_, .int .i64 r2]) ∧ Kd.R (Kd.int .u8) 5 w' w.heap.size (fun _ => True) v0_ r1 ∧ Below w.heap.size w w' := by
 unfold frame_Encode.f at h
 obtain ⟨m, hm, h⟩ := Option.bind_eq_some_iff.mp h
 have hM : ∀ W, Below w.heap.size w W → Calls Tryz.prog 21 #[.agg #[.int .i64 a0_0, .int .i64 a0_1, .int .i64 a0_2, .int .i64 a0_3, .int .i64 a0_4, .int .i64 a0_5, .bool a0_6, .int .i64 a0_7, .int .i64 a0_8, .slice A0_9 l0_9.length c0_9, .int .i64 a0_10, .int .i64 a0_11, .int .i64 a0_12, .slice A0_13 l0_13.length c0_13]] W fun e w' => e = .returned (.bool m) ∧ Below W.heap.size W w' := fun W hW => frame_May.calls k a0_0 a0_1 a0_2 a0_3 a0_4 a0_5 a0_6 a0_7 a0_8 A0_9 c0_9 l0_9 a0_10 a0_11 a0_12 A0_13 c0_13 l0_13 m W (Kd.C_below hr0_9 hW) hc0_9 (Kd.C_below hr0_13 hW) hc0_13 hm
 cases m with
 | false =>
  rw [if_neg (by decide)] at h
  simp only [Option.some.injEq, Prod.mk.injEq] at h
  obtain ⟨rfl, rfl⟩ := h
  exact enc_no a0_1 a0_2 a0_3 a0_4 a0_5 a0_6 a0_7 a0_8 A0_9 c0_9 l0_9 a0_10 a0_11 a0_12 A0_13 c0_13 l0_13 a0_0 w hM
 | true =>
  rw [if_pos rfl] at h
  split at h
  case isFalse => cases h
  rename_i hc
  have hb : Bys l0_13 := fun x hx => of_decide_eq_true (List.all_eq_true.mp hc.1 x hx)
  simp only [Option.some.injEq, Prod.mk.injEq] at h
  obtain ⟨rfl, rfl⟩ := h
  unfold frame_May.f at hm
  unfold encP
  by_cases e1 : a0_0 = 1
  ·rw [if_pos e1] at hm
   obtain ⟨s_, _, hm⟩ := Option.bind_eq_some_iff.mp hm
   simp only [Option.some.injEq, Bool.and_eq_true] at hm
   subst e1
   rw [if_pos rfl]; exact enc1 a0_1 a0_2 a0_3 a0_4 a0_5 a0_6 a0_7 a0_8 A0_9 c0_9 l0_9 a0_10 a0_11 a0_12 A0_13 c0_13 l0_13 w hM
  rw [if_neg e1] at hm
  by_cases e2 : a0_0 = 2
  ·rw [if_pos e2] at hm
   obtain ⟨s_, _, hm⟩ := Option.bind_eq_some_iff.mp hm
   simp only [Option.some.injEq, Bool.and_eq_true] at hm
   subst e2
   have hl := agesOk_len hm.2.2.2.2.2.2
   rw [if_neg (by decide), if_pos rfl]; exact enc2 a0_1 a0_2 a0_3 a0_4 a0_5 a0_6 a0_7 a0_8 A0_9 c0_9 l0_9 a0_10 a0_11 a0_12 A0_13 c0_13 l0_13 w hM hr0_9 hc0_9 (by omega)
  rw [if_neg e2] at hm
  by_cases e3 : a0_0 = 3
  ·rw [if_pos e3] at hm
   obtain ⟨s_, _, hm⟩ := Option.bind_eq_some_iff.mp hm
   simp only [Option.some.injEq, Bool.and_eq_true] at hm
   subst e3
   rw [if_neg (by decide), if_neg (by decide), if_pos rfl]; exact enc3 a0_1 a0_2 a0_3 a0_4 a0_5 a0_6 a0_7 a0_8 A0_9 c0_9 l0_9 a0_10 a0_11 a0_12 A0_13 c0_13 l0_13 w hM hc.2
  rw [if_neg e3] at hm
  by_cases e4 : a0_0 = 4
  ·rw [if_pos e4] at hm
   obtain ⟨s_, _, hm⟩ := Option.bind_eq_some_iff.mp hm
   simp only [Option.some.injEq, Bool.and_eq_true] at hm
   subst e4
   have hl := agesOk_len hm.2.2.2.2
   rw [if_neg (by decide), if_neg (by decide), if_neg (by decide), if_pos rfl]; exact enc4 a0_1 a0_2 a0_3 a0_4 a0_5 a0_6 a0_7 a0_8 A0_9 c0_9 l0_9 a0_10 a0_11 a0_12 A0_13 c0_13 l0_13 w hM hr0_9 hc0_9 (by omega)
  rw [if_neg e4] at hm
  by_cases e5 : a0_0 = 5
  ·rw [if_pos e5] at hm
   obtain ⟨s_, _, hm⟩ := Option.bind_eq_some_iff.mp hm
   simp only [Option.some.injEq, Bool.and_eq_true, decide_eq_true_eq] at hm
   subst e5
   have hl : (l0_13.length : Int) ≤ 24 := hm.2.2.2.2.2.2.2
   rw [if_neg (by decide), if_neg (by decide), if_neg (by decide), if_neg (by decide)]; exact enc5 a0_1 a0_2 a0_3 a0_4 a0_5 a0_6 a0_7 a0_8 A0_9 c0_9 l0_9 a0_10 a0_11 a0_12 A0_13 c0_13 l0_13 w hM hr0_13 hc0_13 (by omega) hb
  rw [if_neg e5] at hm
  cases hm
theorem frame_Encode.mono : ∀ a0 a1 a2 a3 a4 a5 a6 a7 a8 a9 a10 a11 a12 a13 k, LeO (frame_Encode.f k a0 a1 a2 a3 a4 a5 a6 a7 a8 a9 a10 a11 a12 a13) (frame_Encode.f (k + 1) a0 a1 a2 a3 a4 a5 a6 a7 a8 a9 a10 a11 a12 a13) := by
 intro a0 a1 a2 a3 a4 a5 a6 a7 a8 a9 a10 a11 a12 a13 k
 unfold frame_Encode.f
 repeat' first
   | exact frame_May.mono _ _ _ _ _ _ _ _ _ _ _ _ _ _ _
   | (with_reducible exact LeO.refl _)
   | (with_reducible exact LeO.none _)
   | (with_reducible refine LeO.ite ?_ ?_)
   | (with_reducible refine LeO.bind ?_ (fun _ => ?_))
   | exact LeO.refl _
   | refine LeO.ite ?_ ?_
   | refine LeO.bind ?_ (fun _ => ?_)
end Go.Proofs.YtaaifdclojkdmaaGreatDoor.MFr
