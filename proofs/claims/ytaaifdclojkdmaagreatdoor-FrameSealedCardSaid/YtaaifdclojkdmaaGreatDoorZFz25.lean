/- Texts of this claim, laid together by a program (wip/e/merge2.py): HWt. -/
import Derived.Test.YtaaifdclojkdmaaGreatDoorZFz2
import Derived.Test.YtaaifdclojkdmaaGreatDoorZFz4
set_option linter.unusedVariables false
set_option linter.unusedSimpArgs false
set_option maxRecDepth 100000
namespace Go.Proofs.YtaaifdclojkdmaaGreatDoor.MFr
open Go.RowKit Go.Proofs.YtaaifdclojkdmaaGreatDoorW.PrintWords Go.Proofs.YtaaifdclojkdmaaGreatDoorW.PrintLast Go.Proofs.YtaaifdclojkdmaaGreatDoorW.PrintMore Go.Proofs.YtaaifdclojkdmaaGreatDoor.Wire Go.Proofs.YtaaifdclojkdmaaGreatDoor.Evl
theorem winfo5 : (Tryz.prog.info? 5).map (fun i => (i.zero, i.size, i.bytes)) = some (some (.int .u8 0), 1, 1) := by kernel_rfl
def Wr (W : World) (m g : Nat) (acc : List Int) : Prop :=
 ∃ A c, W.heap[g]? = some (.cells #[.slice A acc.length c] 61 (0, 0)) ∧ Kd.R (Kd.int .u8) 5 W (g + 1) (fun k => k < m) (.slice A acc.length c) acc
def pl (w n : Int) : List Int := (plainR n w).1
def sg (w n : Int) : List Int := (signedR n w).1
theorem pl_len (w n : Int) : (pl w n).length ≤ 7 := by
 unfold pl plainR
 split
 ·simp only [enc_len]; omega
 ·simp
theorem sg_len (w n : Int) : (sg w n).length ≤ 7 := by
 unfold sg signedR
 split
 ·simp only [enc_len]; omega
 ·simp
theorem Wr.more {w w1 : World} {m g : Nat} {acc : List Int} (H : Wr w m g acc) (k : Below w.heap.size w w1) : Wr w1 m g acc := by
 obtain ⟨A, c, hb, hr⟩ := H
 exact ⟨A, c, (k.block g (blk_lt hb)).trans hb, Kd.R_below hr k⟩
theorem Wr.lt {w : World} {m g : Nat} {acc : List Int} (H : Wr w m g acc) : g < w.heap.size := by
 obtain ⟨A, c, hb, hr⟩ := H
 exact blk_lt hb
theorem below_g {g : Nat} {w w1 : World} (k : Below w.heap.size w w1) (h : g < w.heap.size) : Below g w w1 := k.mono (Nat.le_of_lt h)
set_option maxHeartbeats 4000000 in
theorem wplain1 (wd n0 : Int) (acc0 : List Int) (g bl : Nat) (w : World) (H : Wr w bl g acc0) (hbl : w.heap[bl]? = some (.cells #[.int .i64 n0] 2 (0, 0))) (hla : acc0.length ≤ 1000000) (hlt : bl < w.heap.size) :
  Calls Tryz.prog 22 #[.pointer (some ⟨g, 0, none⟩), .int .i64 wd, .slice (some ⟨bl, 0, none⟩) 1 1] w fun e w' => e = .returned (.tuple #[]) ∧ Wr w' w'.heap.size g (acc0 ++ pl wd n0) ∧ Below g w w' := by
 obtain ⟨A, c, hgb, hr⟩ := H
 have HGB := Aside0.mk hgb
 have HO : Aside0 (Kd.R (Kd.int .u8) 5 w (g + 1) (fun k => k ≠ bl) (.slice A acc0.length c) acc0) := ⟨Kd.R_mono hr (fun k hk => by have : k < bl := hk; omega)⟩
 have HBL := Aside0.mk hbl
 have HBLT := Aside0.mk hlt
 have HLA : Aside0 (acc0.length ≤ 1000000) := ⟨hla⟩
 have HW : Aside0 (Below g w w) := ⟨Below.refl _ _⟩
 have hgl : g ≠ bl := by
  intro e_
  rw [e_] at hgb
  rw [hbl] at hgb
  injection hgb with hgb
  injection hgb with _ ht
  exact absurd ht (by decide)
 have HNE := Aside0.mk hgl
 obtain ⟨k0, hk0⟩ := (plain_evl n0 wd).some_
 have HK0 := Aside0.mk hk0
 clear hk0
 clear hgb hr hbl hlt hla hgl
 go_enter Tryz.func22, Tryz.ntmps22
 go_wp2_with fail
 refine wp_loop_rounds 2 ?_
 rw [rounds_succ]
 have l0_ : w.cell? ⟨bl, 0, none⟩ = some (.int .i64 n0) := (blk_cell HBL.out 0).trans rfl
 go_wp2_with fail
 refine (wire_Plain.calls k0 n0 wd (pl wd n0) (plainR n0 wd).2 _ HK0.out).mono ?_
 rintro e x0_1 ⟨vs, rfl, hs, hb⟩
 obtain ⟨As_, cs_, rfl⟩ := Kd.R_slice hs
 have HS_ := Aside0.mk hs
 have HGB_ := Aside0.mk ((hb.block g (blk_lt HGB.out)).trans HGB.out)
 have HBL_ := Aside0.mk ((hb.block bl (blk_lt HBL.out)).trans HBL.out)
 have HO_ := Aside0.mk (Kd.R_mono (Kd.R_elder' HO.out (Kd.R_base hs) hb) (fun k hk => hk))
 have HW_ := Aside0.mk (HW.out.trans (below_g hb (blk_lt HGB.out)))
 have HG1 := Aside0.mk (show g + 1 ≤ x0_1.heap.size from Nat.le_trans (blk_lt HGB.out) hb.size)
 have HRB := Aside0.mk (Kd.R_base HO_.out)
 have HBLT_ := Aside0.mk (Nat.lt_of_lt_of_le HBLT.out hb.size)
 have HLS := Aside0.mk (pl_len wd n0)
 obtain ⟨q1, hacc⟩ : ∃ q, acc0 ++ pl wd n0 = q := ⟨_, rfl⟩
 have HQ1 := Aside0.mk hacc
 clear HGB HBL HO HW HBLT hs hb l0_ hacc
 have HGB := HGB_
 have HBL := HBL_
 have HO := HO_
 have HW := HW_
 have HBLT := HBLT_
 clear HGB_ HBL_ HO_ HW_ HBLT_
 have hgc : x0_1.cell? ⟨g, 0, none⟩ = some (.slice A acc0.length c) := (blk_cell HGB.out 0).trans rfl
 go_wp2_with (first | ((with_reducible refine gate_builtin (b := .append) (xs := #[.tmp 26, .tmp 27]) rfl ?_); at_builtin; refine Kd.R_append_rows (Kd.int .u8) (w0 := x0_1) (g + 1) rfl (.tmp 26) (.tmp 27) 22 5 (.int .u8 0) 1 rfl Tryz.underlying22 winfo5 rfl (by decide) (by omega) (.slice A acc0.length c) acc0 (pl wd n0) _ _ _ (fun k_ => k_ ≠ bl ∧ some k_ ≠ (.slice As_ (pl wd n0).length cs_ : Value).ownBlock) (fun _ => False) rfl rfl ?aO ?aR (fun _ _ h => h) (fun _ h => h.elim) ?aF ?aB ?aS ?aL ?_; (case aR => exact (Kd.R_reads' HS_.out).2.2); (case aB => exact Below.refl _ _); (case aF => exact (fun k_ hk => ⟨by have := HBLT.out; omega, Kd.fresh' (Kd.R_lt HS_.out) k_ hk⟩)); (case aO => exact HO.out); (case aS => exact HG1.out); (case aL => have := HLA.out; have := HLS.out; omega); intro v1_ w4 ho hb hg hat; rw [HQ1.out] at ho; obtain ⟨An_, cn_, rfl⟩ := Kd.R_slice ho; have HO1 := Aside0.mk ho; have HB_ := Aside0.mk hb; have HGr := Aside0.mk hg; have gy0 : w4.cell? ⟨g, 0, none⟩ = some ((.slice A acc0.length c)) := (blk_cell ((hg.block g (blk_lt HGB.out) (by intro e_; have := HRB.out g e_.symm; omega)).trans HGB.out) 0).trans rfl; have gf0 : w4.frozen? ⟨g, 0, none⟩ = false := blk_frozen ((hg.block g (blk_lt HGB.out) (by intro e_; have := HRB.out g e_.symm; omega)).trans HGB.out) 0; clear ho hb hg hat))
 have HGB_ : Aside0 ((w4.setCell ⟨g, 0, none⟩ (.slice An_ q1.length cn_)).heap[g]? = some (.cells #[(.slice An_ q1.length cn_)] 61 (0, 0))) := ⟨blk_put ((HGr.out.block g (blk_lt HGB.out) (by intro e_; have := HRB.out g e_.symm; omega)).trans HGB.out) 0 _ rfl⟩
 have HBL_ : Aside0 ((w4.setCell ⟨g, 0, none⟩ (.slice An_ q1.length cn_)).heap[bl]? = some (.cells #[.int .i64 n0] 2 (0, 0))) := ⟨blk_far ((HGr.out.block bl (blk_lt HBL.out) (by intro e_; exact (HO.out.1 bl e_.symm).1 rfl)).trans HBL.out) (by have := HNE.out; show bl ≠ g; omega) _⟩
 have HO_ := Aside0.mk (Kd.R_mono (Kd.R_far (p := ⟨g, 0, none⟩) (Kd.R_bound HO1.out) (fun k hk => by have := hk.2.1; show k ≠ g; omega) (.slice An_ q1.length cn_)) (fun k hk => hk.1.1))
 have HW_ := Aside0.mk ((HW.out.trans (HB_.out.mono (Nat.le_succ g))).setCell (p := ⟨g, 0, none⟩) (Nat.le_refl g) (.slice An_ q1.length cn_))
 have HBLT_ : Aside0 (bl < (w4.setCell ⟨g, 0, none⟩ (.slice An_ q1.length cn_)).heap.size) := ⟨by have := HBLT.out; have := HGr.out.size; simp [World.setCell]; omega⟩
 have HLA_ : Aside0 (q1.length ≤ 1000000 + 7) := ⟨by have := HLA.out; have := HLS.out; rw [← HQ1.out, List.length_append]; omega⟩
 clear HGB HBL HO HW HBLT HLA HS_ HG1 HRB HLS HO1 HB_ HGr gy0 gf0 hgc
 have HGB := HGB_
 have HBL := HBL_
 have HO := HO_
 have HW := HW_
 have HBLT := HBLT_
 have HLA := HLA_
 clear HGB_ HBL_ HO_ HW_ HBLT_ HLA_
 generalize w4.setCell ⟨g, 0, none⟩ (.slice An_ q1.length cn_) = y0_ at *
 rw [rounds_succ]
 obtain ⟨A0, hA0⟩ : ∃ A_, An_ = A_ := ⟨_, rfl⟩
 obtain ⟨c0, hc0⟩ : ∃ c_, cn_ = c_ := ⟨_, rfl⟩
 rw [hA0, hc0] at HGB HO
 clear hA0 hc0
 have HFIN : Aside0 (acc0 ++ pl wd n0 = q1) := ⟨by rw [HQ1.out]⟩
 go_wp2_with fail
 go_end0
 rw [HFIN.out]
 exact ⟨rfl, ⟨_, _, HGB.out, Kd.R_mono (Kd.R_bound HO.out) (fun k hk => hk.2.2.1)⟩, HW.out⟩
set_option maxHeartbeats 4000000 in
theorem wplain2 (wd n0 n1 : Int) (acc0 : List Int) (g bl : Nat) (w : World) (H : Wr w bl g acc0) (hbl : w.heap[bl]? = some (.cells #[.int .i64 n0, .int .i64 n1] 2 (0, 0))) (hla : acc0.length ≤ 1000000) (hlt : bl < w.heap.size) :
  Calls Tryz.prog 22 #[.pointer (some ⟨g, 0, none⟩), .int .i64 wd, .slice (some ⟨bl, 0, none⟩) 2 2] w fun e w' => e = .returned (.tuple #[]) ∧ Wr w' w'.heap.size g ((acc0 ++ pl wd n0) ++ pl wd n1) ∧ Below g w w' := by
 obtain ⟨A, c, hgb, hr⟩ := H
 have HGB := Aside0.mk hgb
 have HO : Aside0 (Kd.R (Kd.int .u8) 5 w (g + 1) (fun k => k ≠ bl) (.slice A acc0.length c) acc0) := ⟨Kd.R_mono hr (fun k hk => by have : k < bl := hk; omega)⟩
 have HBL := Aside0.mk hbl
 have HBLT := Aside0.mk hlt
 have HLA : Aside0 (acc0.length ≤ 1000000) := ⟨hla⟩
 have HW : Aside0 (Below g w w) := ⟨Below.refl _ _⟩
 have hgl : g ≠ bl := by
  intro e_
  rw [e_] at hgb
  rw [hbl] at hgb
  injection hgb with hgb
  injection hgb with _ ht
  exact absurd ht (by decide)
 have HNE := Aside0.mk hgl
 obtain ⟨k0, hk0⟩ := (plain_evl n0 wd).some_
 have HK0 := Aside0.mk hk0
 clear hk0
 obtain ⟨k1, hk1⟩ := (plain_evl n1 wd).some_
 have HK1 := Aside0.mk hk1
 clear hk1
 clear hgb hr hbl hlt hla hgl
 go_enter Tryz.func22, Tryz.ntmps22
 go_wp2_with fail
 refine wp_loop_rounds 3 ?_
 rw [rounds_succ]
 have l0_ : w.cell? ⟨bl, 0, none⟩ = some (.int .i64 n0) := (blk_cell HBL.out 0).trans rfl
 go_wp2_with fail
 refine (wire_Plain.calls k0 n0 wd (pl wd n0) (plainR n0 wd).2 _ HK0.out).mono ?_
 rintro e x0_1 ⟨vs, rfl, hs, hb⟩
 obtain ⟨As_, cs_, rfl⟩ := Kd.R_slice hs
 have HS_ := Aside0.mk hs
 have HGB_ := Aside0.mk ((hb.block g (blk_lt HGB.out)).trans HGB.out)
 have HBL_ := Aside0.mk ((hb.block bl (blk_lt HBL.out)).trans HBL.out)
 have HO_ := Aside0.mk (Kd.R_mono (Kd.R_elder' HO.out (Kd.R_base hs) hb) (fun k hk => hk))
 have HW_ := Aside0.mk (HW.out.trans (below_g hb (blk_lt HGB.out)))
 have HG1 := Aside0.mk (show g + 1 ≤ x0_1.heap.size from Nat.le_trans (blk_lt HGB.out) hb.size)
 have HRB := Aside0.mk (Kd.R_base HO_.out)
 have HBLT_ := Aside0.mk (Nat.lt_of_lt_of_le HBLT.out hb.size)
 have HLS := Aside0.mk (pl_len wd n0)
 obtain ⟨q1, hacc⟩ : ∃ q, acc0 ++ pl wd n0 = q := ⟨_, rfl⟩
 have HQ1 := Aside0.mk hacc
 clear HGB HBL HO HW HBLT hs hb l0_ hacc
 have HGB := HGB_
 have HBL := HBL_
 have HO := HO_
 have HW := HW_
 have HBLT := HBLT_
 clear HGB_ HBL_ HO_ HW_ HBLT_
 have hgc : x0_1.cell? ⟨g, 0, none⟩ = some (.slice A acc0.length c) := (blk_cell HGB.out 0).trans rfl
 go_wp2_with (first | ((with_reducible refine gate_builtin (b := .append) (xs := #[.tmp 26, .tmp 27]) rfl ?_); at_builtin; refine Kd.R_append_rows (Kd.int .u8) (w0 := x0_1) (g + 1) rfl (.tmp 26) (.tmp 27) 22 5 (.int .u8 0) 1 rfl Tryz.underlying22 winfo5 rfl (by decide) (by omega) (.slice A acc0.length c) acc0 (pl wd n0) _ _ _ (fun k_ => k_ ≠ bl ∧ some k_ ≠ (.slice As_ (pl wd n0).length cs_ : Value).ownBlock) (fun _ => False) rfl rfl ?aO ?aR (fun _ _ h => h) (fun _ h => h.elim) ?aF ?aB ?aS ?aL ?_; (case aR => exact (Kd.R_reads' HS_.out).2.2); (case aB => exact Below.refl _ _); (case aF => exact (fun k_ hk => ⟨by have := HBLT.out; omega, Kd.fresh' (Kd.R_lt HS_.out) k_ hk⟩)); (case aO => exact HO.out); (case aS => exact HG1.out); (case aL => have := HLA.out; have := HLS.out; omega); intro v1_ w4 ho hb hg hat; rw [HQ1.out] at ho; obtain ⟨An_, cn_, rfl⟩ := Kd.R_slice ho; have HO1 := Aside0.mk ho; have HB_ := Aside0.mk hb; have HGr := Aside0.mk hg; have gy0 : w4.cell? ⟨g, 0, none⟩ = some ((.slice A acc0.length c)) := (blk_cell ((hg.block g (blk_lt HGB.out) (by intro e_; have := HRB.out g e_.symm; omega)).trans HGB.out) 0).trans rfl; have gf0 : w4.frozen? ⟨g, 0, none⟩ = false := blk_frozen ((hg.block g (blk_lt HGB.out) (by intro e_; have := HRB.out g e_.symm; omega)).trans HGB.out) 0; clear ho hb hg hat))
 have HGB_ : Aside0 ((w4.setCell ⟨g, 0, none⟩ (.slice An_ q1.length cn_)).heap[g]? = some (.cells #[(.slice An_ q1.length cn_)] 61 (0, 0))) := ⟨blk_put ((HGr.out.block g (blk_lt HGB.out) (by intro e_; have := HRB.out g e_.symm; omega)).trans HGB.out) 0 _ rfl⟩
 have HBL_ : Aside0 ((w4.setCell ⟨g, 0, none⟩ (.slice An_ q1.length cn_)).heap[bl]? = some (.cells #[.int .i64 n0, .int .i64 n1] 2 (0, 0))) := ⟨blk_far ((HGr.out.block bl (blk_lt HBL.out) (by intro e_; exact (HO.out.1 bl e_.symm).1 rfl)).trans HBL.out) (by have := HNE.out; show bl ≠ g; omega) _⟩
 have HO_ := Aside0.mk (Kd.R_mono (Kd.R_far (p := ⟨g, 0, none⟩) (Kd.R_bound HO1.out) (fun k hk => by have := hk.2.1; show k ≠ g; omega) (.slice An_ q1.length cn_)) (fun k hk => hk.1.1))
 have HW_ := Aside0.mk ((HW.out.trans (HB_.out.mono (Nat.le_succ g))).setCell (p := ⟨g, 0, none⟩) (Nat.le_refl g) (.slice An_ q1.length cn_))
 have HBLT_ : Aside0 (bl < (w4.setCell ⟨g, 0, none⟩ (.slice An_ q1.length cn_)).heap.size) := ⟨by have := HBLT.out; have := HGr.out.size; simp [World.setCell]; omega⟩
 have HLA_ : Aside0 (q1.length ≤ 1000000 + 7) := ⟨by have := HLA.out; have := HLS.out; rw [← HQ1.out, List.length_append]; omega⟩
 clear HGB HBL HO HW HBLT HLA HS_ HG1 HRB HLS HO1 HB_ HGr gy0 gf0 hgc
 have HGB := HGB_
 have HBL := HBL_
 have HO := HO_
 have HW := HW_
 have HBLT := HBLT_
 have HLA := HLA_
 clear HGB_ HBL_ HO_ HW_ HBLT_ HLA_
 generalize w4.setCell ⟨g, 0, none⟩ (.slice An_ q1.length cn_) = y0_ at *
 rw [rounds_succ]
 obtain ⟨A0, hA0⟩ : ∃ A_, An_ = A_ := ⟨_, rfl⟩
 obtain ⟨c0, hc0⟩ : ∃ c_, cn_ = c_ := ⟨_, rfl⟩
 rw [hA0, hc0] at HGB HO
 clear hA0 hc0
 have l1_ : y0_.cell? ⟨bl, 1, none⟩ = some (.int .i64 n1) := (blk_cell HBL.out 1).trans rfl
 go_wp2_with fail
 refine (wire_Plain.calls k1 n1 wd (pl wd n1) (plainR n1 wd).2 _ HK1.out).mono ?_
 rintro e x1_1 ⟨vs, rfl, hs, hb⟩
 obtain ⟨As_, cs_, rfl⟩ := Kd.R_slice hs
 have HS_ := Aside0.mk hs
 have HGB_ := Aside0.mk ((hb.block g (blk_lt HGB.out)).trans HGB.out)
 have HBL_ := Aside0.mk ((hb.block bl (blk_lt HBL.out)).trans HBL.out)
 have HO_ := Aside0.mk (Kd.R_mono (Kd.R_elder' HO.out (Kd.R_base hs) hb) (fun k hk => hk))
 have HW_ := Aside0.mk (HW.out.trans (below_g hb (blk_lt HGB.out)))
 have HG1 := Aside0.mk (show g + 1 ≤ x1_1.heap.size from Nat.le_trans (blk_lt HGB.out) hb.size)
 have HRB := Aside0.mk (Kd.R_base HO_.out)
 have HBLT_ := Aside0.mk (Nat.lt_of_lt_of_le HBLT.out hb.size)
 have HLS := Aside0.mk (pl_len wd n1)
 obtain ⟨q2, hacc⟩ : ∃ q, q1 ++ pl wd n1 = q := ⟨_, rfl⟩
 have HQ2 := Aside0.mk hacc
 clear HGB HBL HO HW HBLT hs hb l1_ hacc
 have HGB := HGB_
 have HBL := HBL_
 have HO := HO_
 have HW := HW_
 have HBLT := HBLT_
 clear HGB_ HBL_ HO_ HW_ HBLT_
 have hgc : x1_1.cell? ⟨g, 0, none⟩ = some (.slice A0 q1.length c0) := (blk_cell HGB.out 0).trans rfl
 go_wp2_with (first | ((with_reducible refine gate_builtin (b := .append) (xs := #[.tmp 26, .tmp 27]) rfl ?_); at_builtin; refine Kd.R_append_rows (Kd.int .u8) (w0 := x1_1) (g + 1) rfl (.tmp 26) (.tmp 27) 22 5 (.int .u8 0) 1 rfl Tryz.underlying22 winfo5 rfl (by decide) (by omega) (.slice A0 q1.length c0) q1 (pl wd n1) _ _ _ (fun k_ => k_ ≠ bl ∧ some k_ ≠ (.slice As_ (pl wd n1).length cs_ : Value).ownBlock) (fun _ => False) rfl rfl ?aO ?aR (fun _ _ h => h) (fun _ h => h.elim) ?aF ?aB ?aS ?aL ?_; (case aR => exact (Kd.R_reads' HS_.out).2.2); (case aB => exact Below.refl _ _); (case aF => exact (fun k_ hk => ⟨by have := HBLT.out; omega, Kd.fresh' (Kd.R_lt HS_.out) k_ hk⟩)); (case aO => exact HO.out); (case aS => exact HG1.out); (case aL => have := HLA.out; have := HLS.out; omega); intro v1_ w4 ho hb hg hat; rw [HQ2.out] at ho; obtain ⟨An_, cn_, rfl⟩ := Kd.R_slice ho; have HO1 := Aside0.mk ho; have HB_ := Aside0.mk hb; have HGr := Aside0.mk hg; have gy0 : w4.cell? ⟨g, 0, none⟩ = some ((.slice A0 q1.length c0)) := (blk_cell ((hg.block g (blk_lt HGB.out) (by intro e_; have := HRB.out g e_.symm; omega)).trans HGB.out) 0).trans rfl; have gf0 : w4.frozen? ⟨g, 0, none⟩ = false := blk_frozen ((hg.block g (blk_lt HGB.out) (by intro e_; have := HRB.out g e_.symm; omega)).trans HGB.out) 0; clear ho hb hg hat))
 have HGB_ : Aside0 ((w4.setCell ⟨g, 0, none⟩ (.slice An_ q2.length cn_)).heap[g]? = some (.cells #[(.slice An_ q2.length cn_)] 61 (0, 0))) := ⟨blk_put ((HGr.out.block g (blk_lt HGB.out) (by intro e_; have := HRB.out g e_.symm; omega)).trans HGB.out) 0 _ rfl⟩
 have HBL_ : Aside0 ((w4.setCell ⟨g, 0, none⟩ (.slice An_ q2.length cn_)).heap[bl]? = some (.cells #[.int .i64 n0, .int .i64 n1] 2 (0, 0))) := ⟨blk_far ((HGr.out.block bl (blk_lt HBL.out) (by intro e_; exact (HO.out.1 bl e_.symm).1 rfl)).trans HBL.out) (by have := HNE.out; show bl ≠ g; omega) _⟩
 have HO_ := Aside0.mk (Kd.R_mono (Kd.R_far (p := ⟨g, 0, none⟩) (Kd.R_bound HO1.out) (fun k hk => by have := hk.2.1; show k ≠ g; omega) (.slice An_ q2.length cn_)) (fun k hk => hk.1.1))
 have HW_ := Aside0.mk ((HW.out.trans (HB_.out.mono (Nat.le_succ g))).setCell (p := ⟨g, 0, none⟩) (Nat.le_refl g) (.slice An_ q2.length cn_))
 have HBLT_ : Aside0 (bl < (w4.setCell ⟨g, 0, none⟩ (.slice An_ q2.length cn_)).heap.size) := ⟨by have := HBLT.out; have := HGr.out.size; simp [World.setCell]; omega⟩
 have HLA_ : Aside0 (q2.length ≤ 1000000 + 14) := ⟨by have := HLA.out; have := HLS.out; rw [← HQ2.out, List.length_append]; omega⟩
 clear HGB HBL HO HW HBLT HLA HS_ HG1 HRB HLS HO1 HB_ HGr gy0 gf0 hgc
 have HGB := HGB_
 have HBL := HBL_
 have HO := HO_
 have HW := HW_
 have HBLT := HBLT_
 have HLA := HLA_
 clear HGB_ HBL_ HO_ HW_ HBLT_ HLA_
 generalize w4.setCell ⟨g, 0, none⟩ (.slice An_ q2.length cn_) = y1_ at *
 rw [rounds_succ]
 obtain ⟨A1, hA1⟩ : ∃ A_, An_ = A_ := ⟨_, rfl⟩
 obtain ⟨c1, hc1⟩ : ∃ c_, cn_ = c_ := ⟨_, rfl⟩
 rw [hA1, hc1] at HGB HO
 clear hA1 hc1
 have HFIN : Aside0 ((acc0 ++ pl wd n0) ++ pl wd n1 = q2) := ⟨by rw [HQ1.out, HQ2.out]⟩
 go_wp2_with fail
 go_end0
 rw [HFIN.out]
 exact ⟨rfl, ⟨_, _, HGB.out, Kd.R_mono (Kd.R_bound HO.out) (fun k hk => hk.2.2.1)⟩, HW.out⟩
set_option maxHeartbeats 4000000 in
theorem wplain3 (wd n0 n1 n2 : Int) (acc0 : List Int) (g bl : Nat) (w : World) (H : Wr w bl g acc0) (hbl : w.heap[bl]? = some (.cells #[.int .i64 n0, .int .i64 n1, .int .i64 n2] 2 (0, 0))) (hla : acc0.length ≤ 1000000) (hlt : bl < w.heap.size) :
  Calls Tryz.prog 22 #[.pointer (some ⟨g, 0, none⟩), .int .i64 wd, .slice (some ⟨bl, 0, none⟩) 3 3] w fun e w' => e = .returned (.tuple #[]) ∧ Wr w' w'.heap.size g (((acc0 ++ pl wd n0) ++ pl wd n1) ++ pl wd n2) ∧ Below g w w' := by
 obtain ⟨A, c, hgb, hr⟩ := H
 have HGB := Aside0.mk hgb
 have HO : Aside0 (Kd.R (Kd.int .u8) 5 w (g + 1) (fun k => k ≠ bl) (.slice A acc0.length c) acc0) := ⟨Kd.R_mono hr (fun k hk => by have : k < bl := hk; omega)⟩
 have HBL := Aside0.mk hbl
 have HBLT := Aside0.mk hlt
 have HLA : Aside0 (acc0.length ≤ 1000000) := ⟨hla⟩
 have HW : Aside0 (Below g w w) := ⟨Below.refl _ _⟩
 have hgl : g ≠ bl := by
  intro e_
  rw [e_] at hgb
  rw [hbl] at hgb
  injection hgb with hgb
  injection hgb with _ ht
  exact absurd ht (by decide)
 have HNE := Aside0.mk hgl
 obtain ⟨k0, hk0⟩ := (plain_evl n0 wd).some_
 have HK0 := Aside0.mk hk0
 clear hk0
 obtain ⟨k1, hk1⟩ := (plain_evl n1 wd).some_
 have HK1 := Aside0.mk hk1
 clear hk1
 obtain ⟨k2, hk2⟩ := (plain_evl n2 wd).some_
 have HK2 := Aside0.mk hk2
 clear hk2
 clear hgb hr hbl hlt hla hgl
 go_enter Tryz.func22, Tryz.ntmps22
 go_wp2_with fail
 refine wp_loop_rounds 4 ?_
 rw [rounds_succ]
 have l0_ : w.cell? ⟨bl, 0, none⟩ = some (.int .i64 n0) := (blk_cell HBL.out 0).trans rfl
 go_wp2_with fail
 refine (wire_Plain.calls k0 n0 wd (pl wd n0) (plainR n0 wd).2 _ HK0.out).mono ?_
 rintro e x0_1 ⟨vs, rfl, hs, hb⟩
 obtain ⟨As_, cs_, rfl⟩ := Kd.R_slice hs
 have HS_ := Aside0.mk hs
 have HGB_ := Aside0.mk ((hb.block g (blk_lt HGB.out)).trans HGB.out)
 have HBL_ := Aside0.mk ((hb.block bl (blk_lt HBL.out)).trans HBL.out)
 have HO_ := Aside0.mk (Kd.R_mono (Kd.R_elder' HO.out (Kd.R_base hs) hb) (fun k hk => hk))
 have HW_ := Aside0.mk (HW.out.trans (below_g hb (blk_lt HGB.out)))
 have HG1 := Aside0.mk (show g + 1 ≤ x0_1.heap.size from Nat.le_trans (blk_lt HGB.out) hb.size)
 have HRB := Aside0.mk (Kd.R_base HO_.out)
 have HBLT_ := Aside0.mk (Nat.lt_of_lt_of_le HBLT.out hb.size)
 have HLS := Aside0.mk (pl_len wd n0)
 obtain ⟨q1, hacc⟩ : ∃ q, acc0 ++ pl wd n0 = q := ⟨_, rfl⟩
 have HQ1 := Aside0.mk hacc
 clear HGB HBL HO HW HBLT hs hb l0_ hacc
 have HGB := HGB_
 have HBL := HBL_
 have HO := HO_
 have HW := HW_
 have HBLT := HBLT_
 clear HGB_ HBL_ HO_ HW_ HBLT_
 have hgc : x0_1.cell? ⟨g, 0, none⟩ = some (.slice A acc0.length c) := (blk_cell HGB.out 0).trans rfl
 go_wp2_with (first | ((with_reducible refine gate_builtin (b := .append) (xs := #[.tmp 26, .tmp 27]) rfl ?_); at_builtin; refine Kd.R_append_rows (Kd.int .u8) (w0 := x0_1) (g + 1) rfl (.tmp 26) (.tmp 27) 22 5 (.int .u8 0) 1 rfl Tryz.underlying22 winfo5 rfl (by decide) (by omega) (.slice A acc0.length c) acc0 (pl wd n0) _ _ _ (fun k_ => k_ ≠ bl ∧ some k_ ≠ (.slice As_ (pl wd n0).length cs_ : Value).ownBlock) (fun _ => False) rfl rfl ?aO ?aR (fun _ _ h => h) (fun _ h => h.elim) ?aF ?aB ?aS ?aL ?_; (case aR => exact (Kd.R_reads' HS_.out).2.2); (case aB => exact Below.refl _ _); (case aF => exact (fun k_ hk => ⟨by have := HBLT.out; omega, Kd.fresh' (Kd.R_lt HS_.out) k_ hk⟩)); (case aO => exact HO.out); (case aS => exact HG1.out); (case aL => have := HLA.out; have := HLS.out; omega); intro v1_ w4 ho hb hg hat; rw [HQ1.out] at ho; obtain ⟨An_, cn_, rfl⟩ := Kd.R_slice ho; have HO1 := Aside0.mk ho; have HB_ := Aside0.mk hb; have HGr := Aside0.mk hg; have gy0 : w4.cell? ⟨g, 0, none⟩ = some ((.slice A acc0.length c)) := (blk_cell ((hg.block g (blk_lt HGB.out) (by intro e_; have := HRB.out g e_.symm; omega)).trans HGB.out) 0).trans rfl; have gf0 : w4.frozen? ⟨g, 0, none⟩ = false := blk_frozen ((hg.block g (blk_lt HGB.out) (by intro e_; have := HRB.out g e_.symm; omega)).trans HGB.out) 0; clear ho hb hg hat))
 have HGB_ : Aside0 ((w4.setCell ⟨g, 0, none⟩ (.slice An_ q1.length cn_)).heap[g]? = some (.cells #[(.slice An_ q1.length cn_)] 61 (0, 0))) := ⟨blk_put ((HGr.out.block g (blk_lt HGB.out) (by intro e_; have := HRB.out g e_.symm; omega)).trans HGB.out) 0 _ rfl⟩
 have HBL_ : Aside0 ((w4.setCell ⟨g, 0, none⟩ (.slice An_ q1.length cn_)).heap[bl]? = some (.cells #[.int .i64 n0, .int .i64 n1, .int .i64 n2] 2 (0, 0))) := ⟨blk_far ((HGr.out.block bl (blk_lt HBL.out) (by intro e_; exact (HO.out.1 bl e_.symm).1 rfl)).trans HBL.out) (by have := HNE.out; show bl ≠ g; omega) _⟩
 have HO_ := Aside0.mk (Kd.R_mono (Kd.R_far (p := ⟨g, 0, none⟩) (Kd.R_bound HO1.out) (fun k hk => by have := hk.2.1; show k ≠ g; omega) (.slice An_ q1.length cn_)) (fun k hk => hk.1.1))
 have HW_ := Aside0.mk ((HW.out.trans (HB_.out.mono (Nat.le_succ g))).setCell (p := ⟨g, 0, none⟩) (Nat.le_refl g) (.slice An_ q1.length cn_))
 have HBLT_ : Aside0 (bl < (w4.setCell ⟨g, 0, none⟩ (.slice An_ q1.length cn_)).heap.size) := ⟨by have := HBLT.out; have := HGr.out.size; simp [World.setCell]; omega⟩
 have HLA_ : Aside0 (q1.length ≤ 1000000 + 7) := ⟨by have := HLA.out; have := HLS.out; rw [← HQ1.out, List.length_append]; omega⟩
 clear HGB HBL HO HW HBLT HLA HS_ HG1 HRB HLS HO1 HB_ HGr gy0 gf0 hgc
 have HGB := HGB_
 have HBL := HBL_
 have HO := HO_
 have HW := HW_
 have HBLT := HBLT_
 have HLA := HLA_
 clear HGB_ HBL_ HO_ HW_ HBLT_ HLA_
 generalize w4.setCell ⟨g, 0, none⟩ (.slice An_ q1.length cn_) = y0_ at *
 rw [rounds_succ]
 obtain ⟨A0, hA0⟩ : ∃ A_, An_ = A_ := ⟨_, rfl⟩
 obtain ⟨c0, hc0⟩ : ∃ c_, cn_ = c_ := ⟨_, rfl⟩
 rw [hA0, hc0] at HGB HO
 clear hA0 hc0
 have l1_ : y0_.cell? ⟨bl, 1, none⟩ = some (.int .i64 n1) := (blk_cell HBL.out 1).trans rfl
 go_wp2_with fail
 refine (wire_Plain.calls k1 n1 wd (pl wd n1) (plainR n1 wd).2 _ HK1.out).mono ?_
 rintro e x1_1 ⟨vs, rfl, hs, hb⟩
 obtain ⟨As_, cs_, rfl⟩ := Kd.R_slice hs
 have HS_ := Aside0.mk hs
 have HGB_ := Aside0.mk ((hb.block g (blk_lt HGB.out)).trans HGB.out)
 have HBL_ := Aside0.mk ((hb.block bl (blk_lt HBL.out)).trans HBL.out)
 have HO_ := Aside0.mk (Kd.R_mono (Kd.R_elder' HO.out (Kd.R_base hs) hb) (fun k hk => hk))
 have HW_ := Aside0.mk (HW.out.trans (below_g hb (blk_lt HGB.out)))
 have HG1 := Aside0.mk (show g + 1 ≤ x1_1.heap.size from Nat.le_trans (blk_lt HGB.out) hb.size)
 have HRB := Aside0.mk (Kd.R_base HO_.out)
 have HBLT_ := Aside0.mk (Nat.lt_of_lt_of_le HBLT.out hb.size)
 have HLS := Aside0.mk (pl_len wd n1)
 obtain ⟨q2, hacc⟩ : ∃ q, q1 ++ pl wd n1 = q := ⟨_, rfl⟩
 have HQ2 := Aside0.mk hacc
 clear HGB HBL HO HW HBLT hs hb l1_ hacc
 have HGB := HGB_
 have HBL := HBL_
 have HO := HO_
 have HW := HW_
 have HBLT := HBLT_
 clear HGB_ HBL_ HO_ HW_ HBLT_
 have hgc : x1_1.cell? ⟨g, 0, none⟩ = some (.slice A0 q1.length c0) := (blk_cell HGB.out 0).trans rfl
 go_wp2_with (first | ((with_reducible refine gate_builtin (b := .append) (xs := #[.tmp 26, .tmp 27]) rfl ?_); at_builtin; refine Kd.R_append_rows (Kd.int .u8) (w0 := x1_1) (g + 1) rfl (.tmp 26) (.tmp 27) 22 5 (.int .u8 0) 1 rfl Tryz.underlying22 winfo5 rfl (by decide) (by omega) (.slice A0 q1.length c0) q1 (pl wd n1) _ _ _ (fun k_ => k_ ≠ bl ∧ some k_ ≠ (.slice As_ (pl wd n1).length cs_ : Value).ownBlock) (fun _ => False) rfl rfl ?aO ?aR (fun _ _ h => h) (fun _ h => h.elim) ?aF ?aB ?aS ?aL ?_; (case aR => exact (Kd.R_reads' HS_.out).2.2); (case aB => exact Below.refl _ _); (case aF => exact (fun k_ hk => ⟨by have := HBLT.out; omega, Kd.fresh' (Kd.R_lt HS_.out) k_ hk⟩)); (case aO => exact HO.out); (case aS => exact HG1.out); (case aL => have := HLA.out; have := HLS.out; omega); intro v1_ w4 ho hb hg hat; rw [HQ2.out] at ho; obtain ⟨An_, cn_, rfl⟩ := Kd.R_slice ho; have HO1 := Aside0.mk ho; have HB_ := Aside0.mk hb; have HGr := Aside0.mk hg; have gy0 : w4.cell? ⟨g, 0, none⟩ = some ((.slice A0 q1.length c0)) := (blk_cell ((hg.block g (blk_lt HGB.out) (by intro e_; have := HRB.out g e_.symm; omega)).trans HGB.out) 0).trans rfl; have gf0 : w4.frozen? ⟨g, 0, none⟩ = false := blk_frozen ((hg.block g (blk_lt HGB.out) (by intro e_; have := HRB.out g e_.symm; omega)).trans HGB.out) 0; clear ho hb hg hat))
 have HGB_ : Aside0 ((w4.setCell ⟨g, 0, none⟩ (.slice An_ q2.length cn_)).heap[g]? = some (.cells #[(.slice An_ q2.length cn_)] 61 (0, 0))) := ⟨blk_put ((HGr.out.block g (blk_lt HGB.out) (by intro e_; have := HRB.out g e_.symm; omega)).trans HGB.out) 0 _ rfl⟩
 have HBL_ : Aside0 ((w4.setCell ⟨g, 0, none⟩ (.slice An_ q2.length cn_)).heap[bl]? = some (.cells #[.int .i64 n0, .int .i64 n1, .int .i64 n2] 2 (0, 0))) := ⟨blk_far ((HGr.out.block bl (blk_lt HBL.out) (by intro e_; exact (HO.out.1 bl e_.symm).1 rfl)).trans HBL.out) (by have := HNE.out; show bl ≠ g; omega) _⟩
 have HO_ := Aside0.mk (Kd.R_mono (Kd.R_far (p := ⟨g, 0, none⟩) (Kd.R_bound HO1.out) (fun k hk => by have := hk.2.1; show k ≠ g; omega) (.slice An_ q2.length cn_)) (fun k hk => hk.1.1))
 have HW_ := Aside0.mk ((HW.out.trans (HB_.out.mono (Nat.le_succ g))).setCell (p := ⟨g, 0, none⟩) (Nat.le_refl g) (.slice An_ q2.length cn_))
 have HBLT_ : Aside0 (bl < (w4.setCell ⟨g, 0, none⟩ (.slice An_ q2.length cn_)).heap.size) := ⟨by have := HBLT.out; have := HGr.out.size; simp [World.setCell]; omega⟩
 have HLA_ : Aside0 (q2.length ≤ 1000000 + 14) := ⟨by have := HLA.out; have := HLS.out; rw [← HQ2.out, List.length_append]; omega⟩
 clear HGB HBL HO HW HBLT HLA HS_ HG1 HRB HLS HO1 HB_ HGr gy0 gf0 hgc
 have HGB := HGB_
 have HBL := HBL_
 have HO := HO_
 have HW := HW_
 have HBLT := HBLT_
 have HLA := HLA_
 clear HGB_ HBL_ HO_ HW_ HBLT_ HLA_
 generalize w4.setCell ⟨g, 0, none⟩ (.slice An_ q2.length cn_) = y1_ at *
 rw [rounds_succ]
 obtain ⟨A1, hA1⟩ : ∃ A_, An_ = A_ := ⟨_, rfl⟩
 obtain ⟨c1, hc1⟩ : ∃ c_, cn_ = c_ := ⟨_, rfl⟩
 rw [hA1, hc1] at HGB HO
 clear hA1 hc1
 have l2_ : y1_.cell? ⟨bl, 2, none⟩ = some (.int .i64 n2) := (blk_cell HBL.out 2).trans rfl
 go_wp2_with fail
 refine (wire_Plain.calls k2 n2 wd (pl wd n2) (plainR n2 wd).2 _ HK2.out).mono ?_
 rintro e x2_1 ⟨vs, rfl, hs, hb⟩
 obtain ⟨As_, cs_, rfl⟩ := Kd.R_slice hs
 have HS_ := Aside0.mk hs
 have HGB_ := Aside0.mk ((hb.block g (blk_lt HGB.out)).trans HGB.out)
 have HBL_ := Aside0.mk ((hb.block bl (blk_lt HBL.out)).trans HBL.out)
 have HO_ := Aside0.mk (Kd.R_mono (Kd.R_elder' HO.out (Kd.R_base hs) hb) (fun k hk => hk))
 have HW_ := Aside0.mk (HW.out.trans (below_g hb (blk_lt HGB.out)))
 have HG1 := Aside0.mk (show g + 1 ≤ x2_1.heap.size from Nat.le_trans (blk_lt HGB.out) hb.size)
 have HRB := Aside0.mk (Kd.R_base HO_.out)
 have HBLT_ := Aside0.mk (Nat.lt_of_lt_of_le HBLT.out hb.size)
 have HLS := Aside0.mk (pl_len wd n2)
 obtain ⟨q3, hacc⟩ : ∃ q, q2 ++ pl wd n2 = q := ⟨_, rfl⟩
 have HQ3 := Aside0.mk hacc
 clear HGB HBL HO HW HBLT hs hb l2_ hacc
 have HGB := HGB_
 have HBL := HBL_
 have HO := HO_
 have HW := HW_
 have HBLT := HBLT_
 clear HGB_ HBL_ HO_ HW_ HBLT_
 have hgc : x2_1.cell? ⟨g, 0, none⟩ = some (.slice A1 q2.length c1) := (blk_cell HGB.out 0).trans rfl
 go_wp2_with (first | ((with_reducible refine gate_builtin (b := .append) (xs := #[.tmp 26, .tmp 27]) rfl ?_); at_builtin; refine Kd.R_append_rows (Kd.int .u8) (w0 := x2_1) (g + 1) rfl (.tmp 26) (.tmp 27) 22 5 (.int .u8 0) 1 rfl Tryz.underlying22 winfo5 rfl (by decide) (by omega) (.slice A1 q2.length c1) q2 (pl wd n2) _ _ _ (fun k_ => k_ ≠ bl ∧ some k_ ≠ (.slice As_ (pl wd n2).length cs_ : Value).ownBlock) (fun _ => False) rfl rfl ?aO ?aR (fun _ _ h => h) (fun _ h => h.elim) ?aF ?aB ?aS ?aL ?_; (case aR => exact (Kd.R_reads' HS_.out).2.2); (case aB => exact Below.refl _ _); (case aF => exact (fun k_ hk => ⟨by have := HBLT.out; omega, Kd.fresh' (Kd.R_lt HS_.out) k_ hk⟩)); (case aO => exact HO.out); (case aS => exact HG1.out); (case aL => have := HLA.out; have := HLS.out; omega); intro v1_ w4 ho hb hg hat; rw [HQ3.out] at ho; obtain ⟨An_, cn_, rfl⟩ := Kd.R_slice ho; have HO1 := Aside0.mk ho; have HB_ := Aside0.mk hb; have HGr := Aside0.mk hg; have gy0 : w4.cell? ⟨g, 0, none⟩ = some ((.slice A1 q2.length c1)) := (blk_cell ((hg.block g (blk_lt HGB.out) (by intro e_; have := HRB.out g e_.symm; omega)).trans HGB.out) 0).trans rfl; have gf0 : w4.frozen? ⟨g, 0, none⟩ = false := blk_frozen ((hg.block g (blk_lt HGB.out) (by intro e_; have := HRB.out g e_.symm; omega)).trans HGB.out) 0; clear ho hb hg hat))
 have HGB_ : Aside0 ((w4.setCell ⟨g, 0, none⟩ (.slice An_ q3.length cn_)).heap[g]? = some (.cells #[(.slice An_ q3.length cn_)] 61 (0, 0))) := ⟨blk_put ((HGr.out.block g (blk_lt HGB.out) (by intro e_; have := HRB.out g e_.symm; omega)).trans HGB.out) 0 _ rfl⟩
 have HBL_ : Aside0 ((w4.setCell ⟨g, 0, none⟩ (.slice An_ q3.length cn_)).heap[bl]? = some (.cells #[.int .i64 n0, .int .i64 n1, .int .i64 n2] 2 (0, 0))) := ⟨blk_far ((HGr.out.block bl (blk_lt HBL.out) (by intro e_; exact (HO.out.1 bl e_.symm).1 rfl)).trans HBL.out) (by have := HNE.out; show bl ≠ g; omega) _⟩
 have HO_ := Aside0.mk (Kd.R_mono (Kd.R_far (p := ⟨g, 0, none⟩) (Kd.R_bound HO1.out) (fun k hk => by have := hk.2.1; show k ≠ g; omega) (.slice An_ q3.length cn_)) (fun k hk => hk.1.1))
 have HW_ := Aside0.mk ((HW.out.trans (HB_.out.mono (Nat.le_succ g))).setCell (p := ⟨g, 0, none⟩) (Nat.le_refl g) (.slice An_ q3.length cn_))
 have HBLT_ : Aside0 (bl < (w4.setCell ⟨g, 0, none⟩ (.slice An_ q3.length cn_)).heap.size) := ⟨by have := HBLT.out; have := HGr.out.size; simp [World.setCell]; omega⟩
 have HLA_ : Aside0 (q3.length ≤ 1000000 + 21) := ⟨by have := HLA.out; have := HLS.out; rw [← HQ3.out, List.length_append]; omega⟩
 clear HGB HBL HO HW HBLT HLA HS_ HG1 HRB HLS HO1 HB_ HGr gy0 gf0 hgc
 have HGB := HGB_
 have HBL := HBL_
 have HO := HO_
 have HW := HW_
 have HBLT := HBLT_
 have HLA := HLA_
 clear HGB_ HBL_ HO_ HW_ HBLT_ HLA_
 generalize w4.setCell ⟨g, 0, none⟩ (.slice An_ q3.length cn_) = y2_ at *
 rw [rounds_succ]
 obtain ⟨A2, hA2⟩ : ∃ A_, An_ = A_ := ⟨_, rfl⟩
 obtain ⟨c2, hc2⟩ : ∃ c_, cn_ = c_ := ⟨_, rfl⟩
 rw [hA2, hc2] at HGB HO
 clear hA2 hc2
 have HFIN : Aside0 (((acc0 ++ pl wd n0) ++ pl wd n1) ++ pl wd n2 = q3) := ⟨by rw [HQ1.out, HQ2.out, HQ3.out]⟩
 go_wp2_with fail
 go_end0
 rw [HFIN.out]
 exact ⟨rfl, ⟨_, _, HGB.out, Kd.R_mono (Kd.R_bound HO.out) (fun k hk => hk.2.2.1)⟩, HW.out⟩
set_option maxHeartbeats 4000000 in
theorem wsigned (wd n0 : Int) (acc0 : List Int) (g : Nat) (w : World) (H : Wr w w.heap.size g acc0) (hla : acc0.length ≤ 1000000) (hn : -9223372036854775808 ≤ n0 ∧ n0 ≤ 9223372036854775807) :
  Calls Tryz.prog 25 #[.pointer (some ⟨g, 0, none⟩), .int .i64 wd, .int .i64 n0] w fun e w' => e = .returned (.tuple #[]) ∧ Wr w' w'.heap.size g (acc0 ++ sg wd n0) ∧ Below g w w' := by
 obtain ⟨A, c, hgb, hr⟩ := H
 have HGB := Aside0.mk hgb
 have HO : Aside0 (Kd.R (Kd.int .u8) 5 w (g + 1) (fun k => True) (.slice A acc0.length c) acc0) := ⟨Kd.R_mono hr (fun k hk => trivial)⟩
 have HLA : Aside0 (acc0.length ≤ 1000000) := ⟨hla⟩
 obtain ⟨k0, hk0⟩ := (signed_evl n0 wd hn.1 hn.2).some_
 have HK0 := Aside0.mk hk0
 clear hgb hr hla hn hk0
 go_enter Tryz.func25, Tryz.ntmps25
 go_wp2_with fail
 refine (wire_Signed.calls k0 n0 wd (sg wd n0) (signedR n0 wd).2 _ HK0.out).mono ?_
 rintro e x1_ ⟨vs, rfl, hs, hb⟩
 obtain ⟨As_, cs_, rfl⟩ := Kd.R_slice hs
 have HS_ := Aside0.mk hs
 have HGB_ := Aside0.mk ((hb.block g (blk_lt HGB.out)).trans HGB.out)
 have HO_ := Aside0.mk (Kd.R_mono (Kd.R_elder' HO.out (Kd.R_base hs) hb) (fun k hk => hk.2))
 have HW := Aside0.mk (below_g hb (blk_lt HGB.out))
 have HG1 := Aside0.mk (show g + 1 ≤ x1_.heap.size from Nat.le_trans (blk_lt HGB.out) hb.size)
 have HRB := Aside0.mk (Kd.R_base HO_.out)
 have HLS := Aside0.mk (sg_len wd n0)
 obtain ⟨q1, hacc⟩ : ∃ q, acc0 ++ sg wd n0 = q := ⟨_, rfl⟩
 have HQ1 := Aside0.mk hacc
 clear HGB HO hs hb hacc
 have HGB := HGB_
 have HO := HO_
 clear HGB_ HO_
 have hgc : x1_.cell? ⟨g, 0, none⟩ = some (.slice A acc0.length c) := (blk_cell HGB.out 0).trans rfl
 go_wp2_with (first | ((with_reducible refine gate_builtin (b := .append) (xs := #[.tmp 18, .tmp 19]) rfl ?_); at_builtin; refine Kd.R_append_rows (Kd.int .u8) (w0 := x1_) (g + 1) rfl (.tmp 18) (.tmp 19) 22 5 (.int .u8 0) 1 rfl Tryz.underlying22 winfo5 rfl (by decide) (by omega) (.slice A acc0.length c) acc0 (sg wd n0) _ _ _ (fun k_ => some k_ ≠ (.slice As_ (sg wd n0).length cs_ : Value).ownBlock) (fun _ => False) rfl rfl ?aO ?aR (fun _ _ h => h) (fun _ h => h.elim) ?aF ?aB ?aS ?aL ?_; (case aR => exact (Kd.R_reads' HS_.out).2.2); (case aB => exact Below.refl _ _); (case aF => exact (fun k_ hk => Kd.fresh' (Kd.R_lt HS_.out) k_ hk)); (case aO => exact HO.out); (case aS => exact HG1.out); (case aL => have := HLA.out; have := HLS.out; omega); intro v1_ w4 ho hb hg hat; rw [HQ1.out] at ho; obtain ⟨An_, cn_, rfl⟩ := Kd.R_slice ho; have HO1 := Aside0.mk ho; have HB_ := Aside0.mk hb; have HGr := Aside0.mk hg; have gy0 : w4.cell? ⟨g, 0, none⟩ = some ((.slice A acc0.length c)) := (blk_cell ((hg.block g (blk_lt HGB.out) (by intro e_; have := HRB.out g e_.symm; omega)).trans HGB.out) 0).trans rfl; have gf0 : w4.frozen? ⟨g, 0, none⟩ = false := blk_frozen ((hg.block g (blk_lt HGB.out) (by intro e_; have := HRB.out g e_.symm; omega)).trans HGB.out) 0; clear ho hb hg hat))
 have HGB_ : Aside0 ((w4.setCell ⟨g, 0, none⟩ (.slice An_ q1.length cn_)).heap[g]? = some (.cells #[.slice An_ q1.length cn_] 61 (0, 0))) := ⟨blk_put ((HGr.out.block g (blk_lt HGB.out) (by intro e_; have := HRB.out g e_.symm; omega)).trans HGB.out) 0 _ rfl⟩
 have HO_ := Aside0.mk (Kd.R_mono (Kd.R_far (p := ⟨g, 0, none⟩) (Kd.R_bound HO1.out) (fun k hk => by have := hk.2.1; show k ≠ g; omega) (.slice An_ q1.length cn_)) (fun k hk => hk.2.2.1))
 have HW_ := Aside0.mk ((HW.out.trans (HB_.out.mono (Nat.le_succ g))).setCell (p := ⟨g, 0, none⟩) (Nat.le_refl g) (.slice An_ q1.length cn_))
 go_end0
 rw [HQ1.out]
 exact ⟨rfl, ⟨_, _, HGB_.out, Kd.R_mono (Kd.R_bound HO_.out) (fun k hk => hk.2.2.1)⟩, HW_.out⟩
def agesB (l : List Int) : List Int := pl 1 l.length ++ l.flatMap (pl 1)
theorem agesB_len (l : List Int) : (l.flatMap (pl 1)).length ≤ 7 * l.length := by
 induction l with
 | nil => simp
 | cons a t ih => have := pl_len 1 a; simp only [List.flatMap_cons, List.length_append, List.length_cons]; omega
set_option maxHeartbeats 4000000 in
theorem wages (A0 : Option Addr) (c0 : Nat) (l : List Int) (acc0 : List Int) (g B : Nat) (w : World) (H : Wr w w.heap.size g acc0) (hr : ∀ W, Below g w W → Kd.C (Kd.int .i64) W A0 l.length l) (hc : l.length ≤ c0) (hl : l.length ≤ 1000) (hla : acc0.length ≤ 100000) :
  Calls Tryz.prog 23 #[.pointer (some ⟨g, 0, none⟩), .slice A0 l.length c0] w fun e w' => e = .returned (.tuple #[]) ∧ Wr w' w'.heap.size g (acc0 ++ agesB l) ∧ Below g w w' := by
 have HR := Aside0.mk hr
 have HC := Aside0.mk hc
 have HL := Aside0.mk hl
 have HLA := Aside0.mk hla
 have HW0 := Aside0.mk H
 have hlt := H.lt
 have kb : Below w.heap.size w (w.alloc (.cells #[.int .i64 (l.length : Int)] 2)) := below_alloc (Below.refl w.heap.size w) _
 have HB0 := Aside0.mk (below_g kb hlt)
 have HP := Aside0.mk (wplain1 1 (l.length : Int) acc0 g w.heap.size (w.alloc (.cells #[.int .i64 (l.length : Int)] 2)) (H.more kb) (heap_alloc_new _ _) (by omega) (by simp))
 clear H hr hc hl hla hlt kb
 go_enter Tryz.func23, Tryz.ntmps23
 go_wp2_with fail
 refine HP.out.mono ?_
 rintro e w1 ⟨rfl, hW, hB⟩
 have HW := Aside0.mk hW
 have HB := Aside0.mk (HB0.out.trans hB)
 clear hW hB HP HB0
 go_wp2_with fail
 go_loopg [13] (l.length + 1) (fun kq v13 w' => ∃ (i : Int), v13 = .int .i64 i ∧ Aside0 (kq + i = l.length + 1 ∧ 0 ≤ i) ∧ Aside0 (Wr w' w'.heap.size g (acc0 ++ pl 1 l.length ++ (l.take i.toNat).flatMap (pl 1))) ∧ Aside0 (Below g w w'))
 case atStart => exact ⟨0, rfl, ⟨by omega⟩, ⟨by simpa using HW.out⟩, HB⟩
 case round =>
  clear HW HB
  obtain ⟨i, rfl, HK, HW, HB⟩ := hrel
  by_cases hi1 : i < (l.length : Int)
  ·have hi0 := HK.out.2
   obtain ⟨ad, ea_, hx⟩ := Kd.at_int (HR.out wr HB.out) i hi0 hi1
   cases ea_
   have hd : decide (i < (l.length : Int)) = true := decide_eq_true hi1
   have p0_ := eq_true hi0
   have p1_ := eq_true hi1
   have hw : wrap64 (i + 1) = i + 1 := by have := HL.out; unfold wrap64; omega
   have hlt := HW.out.lt
   have hsz : (acc0 ++ pl 1 (l.length : Int) ++ (l.take i.toNat).flatMap (pl 1)).length ≤ 1000000 := by
    have h1 := HLA.out
    have h2 := pl_len 1 (l.length : Int)
    have h3 := agesB_len (l.take i.toNat)
    have h4 := HL.out
    have h5 : (l.take i.toNat).length ≤ l.length := by rw [List.length_take]; omega
    simp only [List.length_append]; omega
   have kb : Below wr.heap.size wr (wr.alloc (.cells #[.int .i64 (rd l i)] 2)) := below_alloc (Below.refl wr.heap.size wr) _
   have HB1 := Aside0.mk (HB.out.trans (below_g kb hlt))
   have HP := Aside0.mk (wplain1 1 (rd l i) _ g wr.heap.size (wr.alloc (.cells #[.int .i64 (rd l i)] 2)) (HW.out.more kb) (heap_alloc_new _ _) hsz (by simp))
   have hnx : acc0 ++ pl 1 (l.length : Int) ++ (l.take i.toNat).flatMap (pl 1) ++ pl 1 (rd l i) = acc0 ++ pl 1 (l.length : Int) ++ (l.take (i + 1).toNat).flatMap (pl 1) := by
    have e1 : (i + 1).toNat = i.toNat + 1 := by omega
    have e2 : i.toNat < l.length := by omega
    rw [e1, List.take_succ_eq_append_getElem e2, List.flatMap_append, ← List.append_assoc]
    congr 1
    simp [rd, List.getD_eq_getElem?_getD, List.getElem?_eq_getElem e2]
   rw [hnx] at HP
   have HI := Aside0.mk hi1
   clear kb hlt hsz hnx hi1
   cases gk with
   | zero => exact absurd HK.out (by have := HI.out; omega)
   | succ k1 =>
   go_wp2_with fail
   refine HP.out.mono ?_
   rintro e w2 ⟨rfl, hW, hB⟩
   have HW2 := Aside0.mk hW
   have HB2 := Aside0.mk (HB1.out.trans hB)
   clear hW hB hx
   go_wp2_with fail
   go_roundg k1
   case measure => have := HK.out; omega
   case rel => exact ⟨i + 1, (by first | rfl | rw [hw]), ⟨by have := HK.out; omega⟩, HW2, HB2⟩
  ·have hd : decide (i < (l.length : Int)) = false := decide_eq_false hi1
   have he : l.take i.toNat = l := List.take_of_length_le (by omega)
   have HE : Aside0 (acc0 ++ pl 1 l.length ++ (l.take i.toNat).flatMap (pl 1) = acc0 ++ agesB l) := ⟨by rw [he]; unfold agesB; rw [List.append_assoc]⟩
   clear he
   go_wp2_with fail
   go_end0
   rw [← HE.out]
   exact ⟨rfl, HW.out, HB.out⟩
end Go.Proofs.YtaaifdclojkdmaaGreatDoor.MFr
