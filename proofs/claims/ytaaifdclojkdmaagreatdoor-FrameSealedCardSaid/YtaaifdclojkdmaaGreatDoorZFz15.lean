/- Texts of this claim, laid together by a program (wip/e/merge2.py): HQk2. -/
import Derived.Test.YtaaifdclojkdmaaGreatDoorZFz14
set_option linter.unusedVariables false
set_option linter.unusedSimpArgs false
set_option maxRecDepth 100000
namespace Go.Proofs.YtaaifdclojkdmaaGreatDoor.MFr
namespace Dq
open Go.RowKit Go.Proofs.YtaaifdclojkdmaaGreatDoorW.PrintWords Go.Proofs.YtaaifdclojkdmaaGreatDoorW.PrintLast Go.Proofs.YtaaifdclojkdmaaGreatDoorW.PrintMore Go.Proofs.YtaaifdclojkdmaaGreatDoor.Wire Go.Proofs.YtaaifdclojkdmaaGreatDoor.Evl
set_option maxHeartbeats 8000000 in
theorem read2 (A0 : Option Addr) (c0 : Nat) (l : List Int) (w : World) (hr : Kd.C (Kd.int .u8) w A0 l.length l) (hc : l.length ≤ c0) (h7 : 7 ≤ l.length) (hl : l.length ≤ 1000000) (ko : Nat) {x : List Int} (hO : drumlineref1_Open.f ko l = some (x, true)) (hk : rd x 0 = 2) (hx : numR (cut x 0 1) = 2) (hx1 : 1 ≤ x.length) (hxl : x.length ≤ 1000000) (hxb : Bys x)
  {x2 x3 x4 x5 : Int} {L : List Int} {s2_ s3_ s4_ s5_ s6_ : St} (q2_0 : numN x ⟨1, 0, 0⟩ 1 0 5 = x2) (q2_1 : numS x ⟨1, 0, 0⟩ 1 0 5 = s2_) (q3_0 : numN x s2_ 1 0 11 = x3) (q3_1 : numS x s2_ 1 0 11 = s3_) (q4_0 : numN x s3_ 6 0 1099511627776 = x4) (q4_1 : numS x s3_ 6 0 1099511627776 = s4_) (q5_0 : numN x s4_ 2 0 4095 = x5) (q5_1 : numS x s4_ 2 0 4095 = s5_) (q6_0 : agesG x s5_ = (L, s6_)) :
  Calls Tryz.prog 16 #[.slice A0 l.length c0] w fun e w' => Out w w' e (outQ x (⟨ 2,  x2,  x3, 0,  x5, 0, false,  x4, 0, L, 0, 0, 0, []⟩ : Fr) s6_).1 (outQ x (⟨ 2,  x2,  x3, 0,  x5, 0, false,  x4, 0, L, 0, 0, 0, []⟩ : Fr) s6_).2.1 (outQ x (⟨ 2,  x2,  x3, 0,  x5, 0, false,  x4, 0, L, 0, 0, 0, []⟩ : Fr) s6_).2.2 := by
 have HR := Aside0.mk hr
 have HC := Aside0.mk hc
 have HL := Aside0.mk h7
 have hd : decide ((l.length : Int) < 7) = false := decide_eq_false (by omega)
 clear hr hc h7
 go_enter Tryz.func16, Tryz.ntmps16
 go_wp2_with fail
 have HB := Aside0.mk (below_alloc (Below.refl w.heap.size w) (.cells #[.int .i64 0, .int .i64 0, .int .i64 0, .int .i64 0, .int .i64 0, .int .i64 0, .bool false, .int .i64 0, .int .i64 0, .slice none 0 0, .int .i64 0, .int .i64 0, .int .i64 0, .slice none 0 0] 26))
 have HZ : Aside0 ((w.alloc (.cells #[.int .i64 0, .int .i64 0, .int .i64 0, .int .i64 0, .int .i64 0, .int .i64 0, .bool false, .int .i64 0, .int .i64 0, .slice none 0 0, .int .i64 0, .int .i64 0, .int .i64 0, .slice none 0 0] 26)).heap[w.heap.size]? = some (.cells #[.int .i64 0, .int .i64 0, .int .i64 0, .int .i64 0, .int .i64 0, .int .i64 0, .bool false, .int .i64 0, .int .i64 0, .slice none 0 0, .int .i64 0, .int .i64 0, .int .i64 0, .slice none 0 0] 26 (0, 0))) := ⟨heap_alloc_new _ _⟩
 generalize w.alloc (.cells #[.int .i64 0, .int .i64 0, .int .i64 0, .int .i64 0, .int .i64 0, .int .i64 0, .bool false, .int .i64 0, .int .i64 0, .slice none 0 0, .int .i64 0, .int .i64 0, .int .i64 0, .slice none 0 0] 26) = wa at *
 obtain ⟨b2, hb2⟩ : ∃ b2, b2 = w.heap.size := ⟨_, rfl⟩
 rw [← hb2]
 rw [← hb2] at HZ
 have HB2 := Aside0.mk hb2
 clear hb2
 refine (drumlineref1_Open.calls ko A0 c0 l x true _ (Kd.C_below HR.out HB.out) HC.out hO).mono ?_
 rintro e w1 ⟨v, rfl, ho, hb⟩
 obtain ⟨A1, c1, rfl⟩ := Kd.R_slice ho
 have HO := Aside0.mk ho
 have HB1 := Aside0.mk (below_step HB.out hb)
 have HZ1 := Aside0.mk ((hb.block b2 (blk_lt HZ.out)).trans HZ.out)
 have HS1 := Aside0.mk (hb.size)
 clear ho hb hO
 have h0x : (0 : Int) < x.length := by omega
 obtain ⟨ad, ea_, hx0⟩ := Kd.at_int (Kd.R_reads' HO.out).2.2 0 (by decide) h0x
 cases ea_
 rw [hk, show ad.add (0 : Int).toNat = ad by cases ad; rfl] at hx0
 have p0_ := eq_true h0x
 have p0c : (0 : Int) < (x.length : Int) := h0x
 go_wp2_with fail
 have HX0 := Aside0.mk (Rx.begin HB1.out HZ1.out (by have := HB2.out; omega) HO.out HB.out.size)
 have W_ := number_walk 1 1 5 _ HX0.out.ds hxl hxb (by decide) (by decide)
 rw [(first_num hx (by decide) hx1).1, (first_num hx (by decide) hx1).2] at W_
 refine W_.mono ?_
 rintro e w2 ⟨rfl, hF⟩
 have HXa := Aside0.mk (HX0.out.call hF)
 clear hF W_ HX0 hx0
 generalize w1.heap.size + 1 = fb at *
 generalize w1.heap.size = g at *
 have y0 := (blk_cell HXa.out.fr 0).trans rfl
 have z0 := blk_frozen HXa.out.fr 0
 go_wp2_with fail
 have HX1 : Aside0 (Rx w _ b2 g fb _ _ x ⟨1, 0, 0⟩ #[.int .i64 2, .int .i64 0, .int .i64 0, .int .i64 0, .int .i64 0, .int .i64 0, .bool false, .int .i64 0, .int .i64 0, .slice none 0 0, .int .i64 0, .int .i64 0, .int .i64 0, .slice none 0 0]) := Aside0.mk (HXa.out.set 0 (.int .i64 2))
 clear y0 z0 HXa
 have W_ := number_walk 1 0 5 _ HX1.out.ds hxl hxb (by decide) (by decide)
 rw [q2_0, q2_1] at W_
 refine W_.mono ?_
 rintro e w3 ⟨rfl, hF⟩
 have HXa := Aside0.mk (HX1.out.call hF)
 clear hF W_
 have y1 := (blk_cell HXa.out.fr 1).trans rfl
 have z1 := blk_frozen HXa.out.fr 1
 go_wp2_with fail
 have HX2 : Aside0 (Rx w _ b2 g fb _ _ x s2_ #[.int .i64 2, .int .i64 x2, .int .i64 0, .int .i64 0, .int .i64 0, .int .i64 0, .bool false, .int .i64 0, .int .i64 0, .slice none 0 0, .int .i64 0, .int .i64 0, .int .i64 0, .slice none 0 0]) := Aside0.mk (HXa.out.set 1 (.int .i64 x2))
 clear y1 z1 HXa
 have W_ := number_walk 1 0 11 _ HX2.out.ds hxl hxb (by decide) (by decide)
 rw [q3_0, q3_1] at W_
 refine W_.mono ?_
 rintro e w4 ⟨rfl, hF⟩
 have HXa := Aside0.mk (HX2.out.call hF)
 clear hF W_
 have y2 := (blk_cell HXa.out.fr 2).trans rfl
 have z2 := blk_frozen HXa.out.fr 2
 have y0 := (blk_cell HXa.out.fr 0).trans rfl
 go_wp2_with fail
 have HX3 : Aside0 (Rx w _ b2 g fb _ _ x s3_ #[.int .i64 2, .int .i64 x2, .int .i64 x3, .int .i64 0, .int .i64 0, .int .i64 0, .bool false, .int .i64 0, .int .i64 0, .slice none 0 0, .int .i64 0, .int .i64 0, .int .i64 0, .slice none 0 0]) := Aside0.mk (HXa.out.set 2 (.int .i64 x3))
 clear y2 z2 y0 HXa
 have W_ := number_walk 6 0 1099511627776 _ HX3.out.ds hxl hxb (by decide) (by decide)
 rw [q4_0, q4_1] at W_
 refine W_.mono ?_
 rintro e w5 ⟨rfl, hF⟩
 have HXa := Aside0.mk (HX3.out.call hF)
 clear hF W_
 have y7 := (blk_cell HXa.out.fr 7).trans rfl
 have z7 := blk_frozen HXa.out.fr 7
 go_wp2_with fail
 have HX4 : Aside0 (Rx w _ b2 g fb _ _ x s4_ #[.int .i64 2, .int .i64 x2, .int .i64 x3, .int .i64 0, .int .i64 0, .int .i64 0, .bool false, .int .i64 x4, .int .i64 0, .slice none 0 0, .int .i64 0, .int .i64 0, .int .i64 0, .slice none 0 0]) := Aside0.mk (HXa.out.set 7 (.int .i64 x4))
 clear y7 z7 HXa
 have W_ := number_walk 2 0 4095 _ HX4.out.ds hxl hxb (by decide) (by decide)
 rw [q5_0, q5_1] at W_
 refine W_.mono ?_
 rintro e w6 ⟨rfl, hF⟩
 have HXa := Aside0.mk (HX4.out.call hF)
 clear hF W_
 have y4 := (blk_cell HXa.out.fr 4).trans rfl
 have z4 := blk_frozen HXa.out.fr 4
 go_wp2_with fail
 have HX5 : Aside0 (Rx w _ b2 g fb _ _ x s5_ #[.int .i64 2, .int .i64 x2, .int .i64 x3, .int .i64 0, .int .i64 x5, .int .i64 0, .bool false, .int .i64 x4, .int .i64 0, .slice none 0 0, .int .i64 0, .int .i64 0, .int .i64 0, .slice none 0 0]) := Aside0.mk (HXa.out.set 4 (.int .i64 x5))
 clear y4 z4 HXa
 have W_ := ages_walk _ HX5.out.ds hxl hxb
 rw [q6_0] at W_
 refine W_.mono ?_
 rintro e w7 ⟨v, rfl, ho, hF⟩
 obtain ⟨AL, cL, rfl⟩ := Kd.R_slice ho
 have HOL := Aside0.mk (Kd.R_lower ho HX5.out.lt)
 have HXa := Aside0.mk (HX5.out.call hF)
 clear hF W_ ho
 have y9 := (blk_cell HXa.out.fr 9).trans rfl
 have z9 := blk_frozen HXa.out.fr 9
 go_upto_region 34 with fail
 have HX6 : Aside0 (Rx w _ b2 g fb _ _ x s6_ #[.int .i64 2, .int .i64 x2, .int .i64 x3, .int .i64 0, .int .i64 x5, .int .i64 0, .bool false, .int .i64 x4, .int .i64 0, .slice AL L.length cL, .int .i64 0, .int .i64 0, .int .i64 0, .slice none 0 0]) := Aside0.mk (HXa.out.set 9 (.slice AL L.length cL))
 clear y9 z9 HXa
 have HOR := Aside0.mk (R_ahead HOL.out 9 (.slice AL L.length cL) (Nat.lt_succ_self fb))
 clear HL HC HR HB HZ HB1 HZ1 HO hd h0x p0_ p0c
 generalize w7.setCell ⟨fb, 9, none⟩ (.slice AL L.length cL) = W at *
 obtain ⟨sa, se, sea⟩ := s6_
 by_cases h0 : se = 0
 ·subst h0
  by_cases h1 : sa < (x.length : Int)
  ·have hd : decide (sa < (x.length : Int)) = true := decide_eq_true h1
   have HQ : Aside0 (outQ x (⟨ 2,  x2,  x3, 0,  x5, 0, false,  x4, 0, L, 0, 0, 0, []⟩ : Fr) ⟨sa, 0, sea⟩ = (Fr.zero, 3, sa)) := ⟨by unfold outQ; rw [if_pos rfl, if_pos h1]⟩
   obtain ⟨c0, c1, c3⟩ := HX6.out.ds.cells
   have F3 := blk_frozen HX6.out.ds.rd.1 3
   go_upto_region 36 with fail
   have HY := Aside0.mk (HX6.out.call (HX6.out.ds.putE 3))
   clear c0 c1 c3 F3
   generalize W.setCell ⟨g, 3, none⟩ (.int .i64 3) = W1 at *
   obtain ⟨c0, c1, c3⟩ := HY.out.ds.cells
   have c4 := HY.out.ds.cell4
   have F4 := blk_frozen HY.out.ds.rd.1 4
   go_upto_region 37 with fail
   have HV := Aside0.mk (HY.out.call (HY.out.ds.putA sa))
   clear c0 c1 c3 c4 F4
   generalize W1.setCell ⟨g, 4, none⟩ (.int .i64 sa) = W2 at *
   obtain ⟨c0, c1, c3⟩ := HV.out.ds.cells
   have c4 := HV.out.ds.cell4
   have zc0 : W2.cell? ⟨b2, 0, none⟩ = some (.int .i64 0) := (blk_cell HV.out.zero 0).trans rfl
   have zc1 : W2.cell? ⟨b2, 1, none⟩ = some (.int .i64 0) := (blk_cell HV.out.zero 1).trans rfl
   have zc2 : W2.cell? ⟨b2, 2, none⟩ = some (.int .i64 0) := (blk_cell HV.out.zero 2).trans rfl
   have zc3 : W2.cell? ⟨b2, 3, none⟩ = some (.int .i64 0) := (blk_cell HV.out.zero 3).trans rfl
   have zc4 : W2.cell? ⟨b2, 4, none⟩ = some (.int .i64 0) := (blk_cell HV.out.zero 4).trans rfl
   have zc5 : W2.cell? ⟨b2, 5, none⟩ = some (.int .i64 0) := (blk_cell HV.out.zero 5).trans rfl
   have zc6 : W2.cell? ⟨b2, 6, none⟩ = some (.bool false) := (blk_cell HV.out.zero 6).trans rfl
   have zc7 : W2.cell? ⟨b2, 7, none⟩ = some (.int .i64 0) := (blk_cell HV.out.zero 7).trans rfl
   have zc8 : W2.cell? ⟨b2, 8, none⟩ = some (.int .i64 0) := (blk_cell HV.out.zero 8).trans rfl
   have zc9 : W2.cell? ⟨b2, 9, none⟩ = some (.slice none 0 0) := (blk_cell HV.out.zero 9).trans rfl
   have zc10 : W2.cell? ⟨b2, 10, none⟩ = some (.int .i64 0) := (blk_cell HV.out.zero 10).trans rfl
   have zc11 : W2.cell? ⟨b2, 11, none⟩ = some (.int .i64 0) := (blk_cell HV.out.zero 11).trans rfl
   have zc12 : W2.cell? ⟨b2, 12, none⟩ = some (.int .i64 0) := (blk_cell HV.out.zero 12).trans rfl
   have zc13 : W2.cell? ⟨b2, 13, none⟩ = some (.slice none 0 0) := (blk_cell HV.out.zero 13).trans rfl
   have zf0 := blk_frozen HV.out.zero 0
   have zf1 := blk_frozen HV.out.zero 1
   have zf2 := blk_frozen HV.out.zero 2
   have zf3 := blk_frozen HV.out.zero 3
   have zf4 := blk_frozen HV.out.zero 4
   have zf5 := blk_frozen HV.out.zero 5
   have zf6 := blk_frozen HV.out.zero 6
   have zf7 := blk_frozen HV.out.zero 7
   have zf8 := blk_frozen HV.out.zero 8
   have zf9 := blk_frozen HV.out.zero 9
   have zf10 := blk_frozen HV.out.zero 10
   have zf11 := blk_frozen HV.out.zero 11
   have zf12 := blk_frozen HV.out.zero 12
   have zf13 := blk_frozen HV.out.zero 13
   have zs0 : W2.setCell ⟨b2, 0, none⟩ (.int .i64 0) = W2 := setCell_same HV.out.zero rfl
   have zs1 : W2.setCell ⟨b2, 1, none⟩ (.int .i64 0) = W2 := setCell_same HV.out.zero rfl
   have zs2 : W2.setCell ⟨b2, 2, none⟩ (.int .i64 0) = W2 := setCell_same HV.out.zero rfl
   have zs3 : W2.setCell ⟨b2, 3, none⟩ (.int .i64 0) = W2 := setCell_same HV.out.zero rfl
   have zs4 : W2.setCell ⟨b2, 4, none⟩ (.int .i64 0) = W2 := setCell_same HV.out.zero rfl
   have zs5 : W2.setCell ⟨b2, 5, none⟩ (.int .i64 0) = W2 := setCell_same HV.out.zero rfl
   have zs6 : W2.setCell ⟨b2, 6, none⟩ (.bool false) = W2 := setCell_same HV.out.zero rfl
   have zs7 : W2.setCell ⟨b2, 7, none⟩ (.int .i64 0) = W2 := setCell_same HV.out.zero rfl
   have zs8 : W2.setCell ⟨b2, 8, none⟩ (.int .i64 0) = W2 := setCell_same HV.out.zero rfl
   have zs9 : W2.setCell ⟨b2, 9, none⟩ (.slice none 0 0) = W2 := setCell_same HV.out.zero rfl
   have zs10 : W2.setCell ⟨b2, 10, none⟩ (.int .i64 0) = W2 := setCell_same HV.out.zero rfl
   have zs11 : W2.setCell ⟨b2, 11, none⟩ (.int .i64 0) = W2 := setCell_same HV.out.zero rfl
   have zs12 : W2.setCell ⟨b2, 12, none⟩ (.int .i64 0) = W2 := setCell_same HV.out.zero rfl
   have zs13 : W2.setCell ⟨b2, 13, none⟩ (.slice none 0 0) = W2 := setCell_same HV.out.zero rfl
   go_wp2_with fail
   go_region
   go_wp2_with fail
   refine bodyPost_ret (results_ctt rfl _ _ b2 26 #[.int .i64 0, .int .i64 0, .int .i64 0, .int .i64 0, .int .i64 0, .int .i64 0, .bool false, .int .i64 0, .int .i64 0, .slice none 0 0, .int .i64 0, .int .i64 0, .int .i64 0, .slice none 0 0] (0, 0) _ rfl HV.out.zero Tryz.underlying26 rfl (by kernel_rfl)) rfl ?_
   rw [HQ.out]
   exact Out.zero rfl (below_drew1 HV.out.below)
  ·have hd : decide (sa < (x.length : Int)) = false := decide_eq_false h1
   have HQ : Aside0 (outQ x (⟨ 2,  x2,  x3, 0,  x5, 0, false,  x4, 0, L, 0, 0, 0, []⟩ : Fr) ⟨sa, 0, sea⟩ = ((⟨ 2,  x2,  x3, 0,  x5, 0, false,  x4, 0, L, 0, 0, 0, []⟩ : Fr), 0, 0)) := ⟨by unfold outQ; rw [if_pos rfl, if_neg h1]⟩
   obtain ⟨c0, c1, c3⟩ := HX6.out.ds.cells
   have yc0 : W.cell? ⟨fb, 0, none⟩ = some (.int .i64 2) := (blk_cell HX6.out.fr 0).trans rfl
   have yc1 : W.cell? ⟨fb, 1, none⟩ = some (.int .i64 x2) := (blk_cell HX6.out.fr 1).trans rfl
   have yc2 : W.cell? ⟨fb, 2, none⟩ = some (.int .i64 x3) := (blk_cell HX6.out.fr 2).trans rfl
   have yc3 : W.cell? ⟨fb, 3, none⟩ = some (.int .i64 0) := (blk_cell HX6.out.fr 3).trans rfl
   have yc4 : W.cell? ⟨fb, 4, none⟩ = some (.int .i64 x5) := (blk_cell HX6.out.fr 4).trans rfl
   have yc5 : W.cell? ⟨fb, 5, none⟩ = some (.int .i64 0) := (blk_cell HX6.out.fr 5).trans rfl
   have yc6 : W.cell? ⟨fb, 6, none⟩ = some (.bool false) := (blk_cell HX6.out.fr 6).trans rfl
   have yc7 : W.cell? ⟨fb, 7, none⟩ = some (.int .i64 x4) := (blk_cell HX6.out.fr 7).trans rfl
   have yc8 : W.cell? ⟨fb, 8, none⟩ = some (.int .i64 0) := (blk_cell HX6.out.fr 8).trans rfl
   have yc9 : W.cell? ⟨fb, 9, none⟩ = some (.slice AL L.length cL) := (blk_cell HX6.out.fr 9).trans rfl
   have yc10 : W.cell? ⟨fb, 10, none⟩ = some (.int .i64 0) := (blk_cell HX6.out.fr 10).trans rfl
   have yc11 : W.cell? ⟨fb, 11, none⟩ = some (.int .i64 0) := (blk_cell HX6.out.fr 11).trans rfl
   have yc12 : W.cell? ⟨fb, 12, none⟩ = some (.int .i64 0) := (blk_cell HX6.out.fr 12).trans rfl
   have yc13 : W.cell? ⟨fb, 13, none⟩ = some (.slice none 0 0) := (blk_cell HX6.out.fr 13).trans rfl
   have zc0 : W.cell? ⟨b2, 0, none⟩ = some (.int .i64 0) := (blk_cell HX6.out.zero 0).trans rfl
   have zc1 : W.cell? ⟨b2, 1, none⟩ = some (.int .i64 0) := (blk_cell HX6.out.zero 1).trans rfl
   have zc2 : W.cell? ⟨b2, 2, none⟩ = some (.int .i64 0) := (blk_cell HX6.out.zero 2).trans rfl
   have zc3 : W.cell? ⟨b2, 3, none⟩ = some (.int .i64 0) := (blk_cell HX6.out.zero 3).trans rfl
   have zc4 : W.cell? ⟨b2, 4, none⟩ = some (.int .i64 0) := (blk_cell HX6.out.zero 4).trans rfl
   have zc5 : W.cell? ⟨b2, 5, none⟩ = some (.int .i64 0) := (blk_cell HX6.out.zero 5).trans rfl
   have zc6 : W.cell? ⟨b2, 6, none⟩ = some (.bool false) := (blk_cell HX6.out.zero 6).trans rfl
   have zc7 : W.cell? ⟨b2, 7, none⟩ = some (.int .i64 0) := (blk_cell HX6.out.zero 7).trans rfl
   have zc8 : W.cell? ⟨b2, 8, none⟩ = some (.int .i64 0) := (blk_cell HX6.out.zero 8).trans rfl
   have zc9 : W.cell? ⟨b2, 9, none⟩ = some (.slice none 0 0) := (blk_cell HX6.out.zero 9).trans rfl
   have zc10 : W.cell? ⟨b2, 10, none⟩ = some (.int .i64 0) := (blk_cell HX6.out.zero 10).trans rfl
   have zc11 : W.cell? ⟨b2, 11, none⟩ = some (.int .i64 0) := (blk_cell HX6.out.zero 11).trans rfl
   have zc12 : W.cell? ⟨b2, 12, none⟩ = some (.int .i64 0) := (blk_cell HX6.out.zero 12).trans rfl
   have zc13 : W.cell? ⟨b2, 13, none⟩ = some (.slice none 0 0) := (blk_cell HX6.out.zero 13).trans rfl
   have zf0 := blk_frozen HX6.out.zero 0
   have zf1 := blk_frozen HX6.out.zero 1
   have zf2 := blk_frozen HX6.out.zero 2
   have zf3 := blk_frozen HX6.out.zero 3
   have zf4 := blk_frozen HX6.out.zero 4
   have zf5 := blk_frozen HX6.out.zero 5
   have zf6 := blk_frozen HX6.out.zero 6
   have zf7 := blk_frozen HX6.out.zero 7
   have zf8 := blk_frozen HX6.out.zero 8
   have zf9 := blk_frozen HX6.out.zero 9
   have zf10 := blk_frozen HX6.out.zero 10
   have zf11 := blk_frozen HX6.out.zero 11
   have zf12 := blk_frozen HX6.out.zero 12
   have zf13 := blk_frozen HX6.out.zero 13
   go_wp2_with fail
   have hbb : ∀ q, fb + 1 ≤ q → q ≠ b2 := fun q hq => by have := HX6.out.gf; have := HX6.out.bg; omega
   have hmm : w.heap.size ≤ fb + 1 := by have := HX6.out.gf; have := HX6.out.bg; have := HX6.out.low; omega
   have HBF : Below w.heap.size w ((((((((((((((W.setCell ⟨b2, 0, none⟩ (.int .i64 2)).setCell ⟨b2, 1, none⟩ (.int .i64 x2)).setCell ⟨b2, 2, none⟩ (.int .i64 x3)).setCell ⟨b2, 3, none⟩ (.int .i64 0)).setCell ⟨b2, 4, none⟩ (.int .i64 x5)).setCell ⟨b2, 5, none⟩ (.int .i64 0)).setCell ⟨b2, 6, none⟩ (.bool false)).setCell ⟨b2, 7, none⟩ (.int .i64 x4)).setCell ⟨b2, 8, none⟩ (.int .i64 0)).setCell ⟨b2, 9, none⟩ (.slice AL L.length cL)).setCell ⟨b2, 10, none⟩ (.int .i64 0)).setCell ⟨b2, 11, none⟩ (.int .i64 0)).setCell ⟨b2, 12, none⟩ (.int .i64 0)).setCell ⟨b2, 13, none⟩ (.slice none 0 0)) := below_set14 HX6.out.below HX6.out.low _ _ _ _ _ _ _ _ _ _ _ _ _ _
   have HBK : ((((((((((((((W.setCell ⟨b2, 0, none⟩ (.int .i64 2)).setCell ⟨b2, 1, none⟩ (.int .i64 x2)).setCell ⟨b2, 2, none⟩ (.int .i64 x3)).setCell ⟨b2, 3, none⟩ (.int .i64 0)).setCell ⟨b2, 4, none⟩ (.int .i64 x5)).setCell ⟨b2, 5, none⟩ (.int .i64 0)).setCell ⟨b2, 6, none⟩ (.bool false)).setCell ⟨b2, 7, none⟩ (.int .i64 x4)).setCell ⟨b2, 8, none⟩ (.int .i64 0)).setCell ⟨b2, 9, none⟩ (.slice AL L.length cL)).setCell ⟨b2, 10, none⟩ (.int .i64 0)).setCell ⟨b2, 11, none⟩ (.int .i64 0)).setCell ⟨b2, 12, none⟩ (.int .i64 0)).setCell ⟨b2, 13, none⟩ (.slice none 0 0)).heap[b2]? = some (.cells #[.int .i64 2, .int .i64 x2, .int .i64 x3, .int .i64 0, .int .i64 x5, .int .i64 0, .bool false, .int .i64 x4, .int .i64 0, .slice AL L.length cL, .int .i64 0, .int .i64 0, .int .i64 0, .slice none 0 0] 26 (0, 0)) := blk_set14 HX6.out.zero _ _ _ _ _ _ _ _ _ _ _ _ _ _
   have h2 := Kd.R_mono (ok' := fun q => fb + 1 ≤ q) (Kd.R_bound HOR.out) (fun q hq => hq.2.1)
   have HRL : (Kd.int .i64).R 3 ((((((((((((((W.setCell ⟨b2, 0, none⟩ (.int .i64 2)).setCell ⟨b2, 1, none⟩ (.int .i64 x2)).setCell ⟨b2, 2, none⟩ (.int .i64 x3)).setCell ⟨b2, 3, none⟩ (.int .i64 0)).setCell ⟨b2, 4, none⟩ (.int .i64 x5)).setCell ⟨b2, 5, none⟩ (.int .i64 0)).setCell ⟨b2, 6, none⟩ (.bool false)).setCell ⟨b2, 7, none⟩ (.int .i64 x4)).setCell ⟨b2, 8, none⟩ (.int .i64 0)).setCell ⟨b2, 9, none⟩ (.slice AL L.length cL)).setCell ⟨b2, 10, none⟩ (.int .i64 0)).setCell ⟨b2, 11, none⟩ (.int .i64 0)).setCell ⟨b2, 12, none⟩ (.int .i64 0)).setCell ⟨b2, 13, none⟩ (.slice none 0 0)) w.heap.size (fun _ => True) (.slice AL L.length cL) L := Kd.R_lower (Kd.R_mono (ok := fun q => fb + 1 ≤ q) (R_set14 h2 hbb _ _ _ _ _ _ _ _ _ _ _ _ _ _) (fun _ _ => trivial)) hmm
   generalize ((((((((((((((W.setCell ⟨b2, 0, none⟩ (.int .i64 2)).setCell ⟨b2, 1, none⟩ (.int .i64 x2)).setCell ⟨b2, 2, none⟩ (.int .i64 x3)).setCell ⟨b2, 3, none⟩ (.int .i64 0)).setCell ⟨b2, 4, none⟩ (.int .i64 x5)).setCell ⟨b2, 5, none⟩ (.int .i64 0)).setCell ⟨b2, 6, none⟩ (.bool false)).setCell ⟨b2, 7, none⟩ (.int .i64 x4)).setCell ⟨b2, 8, none⟩ (.int .i64 0)).setCell ⟨b2, 9, none⟩ (.slice AL L.length cL)).setCell ⟨b2, 10, none⟩ (.int .i64 0)).setCell ⟨b2, 11, none⟩ (.int .i64 0)).setCell ⟨b2, 12, none⟩ (.int .i64 0)).setCell ⟨b2, 13, none⟩ (.slice none 0 0)) = wz at HBF HBK HRL ⊢
   refine bodyPost_ret (results_ctt rfl _ _ b2 26 #[.int .i64 2, .int .i64 x2, .int .i64 x3, .int .i64 0, .int .i64 x5, .int .i64 0, .bool false, .int .i64 x4, .int .i64 0, .slice AL L.length cL, .int .i64 0, .int .i64 0, .int .i64 0, .slice none 0 0] (0, 0) _ rfl HBK Tryz.underlying26 rfl (by kernel_rfl)) rfl ?_
   rw [HQ.out]
   exact ⟨AL, cL, none, 0, rfl, HRL, Kd.R_nil _ _ _ _ _, HBF⟩
 ·have hb0 : (se == 0) = false := beq_eq_false_iff_ne.mpr h0
  have hb1 : (se != 0) = true := bne_iff_ne.mpr h0
  have HQ : Aside0 (outQ x (⟨ 2,  x2,  x3, 0,  x5, 0, false,  x4, 0, L, 0, 0, 0, []⟩ : Fr) ⟨sa, se, sea⟩ = (Fr.zero, se, sea)) := ⟨by unfold outQ; rw [if_neg h0]⟩
  clear h0
  obtain ⟨c0, c1, c3⟩ := HX6.out.ds.cells
  have c4 := HX6.out.ds.cell4
  have zc0 : W.cell? ⟨b2, 0, none⟩ = some (.int .i64 0) := (blk_cell HX6.out.zero 0).trans rfl
  have zc1 : W.cell? ⟨b2, 1, none⟩ = some (.int .i64 0) := (blk_cell HX6.out.zero 1).trans rfl
  have zc2 : W.cell? ⟨b2, 2, none⟩ = some (.int .i64 0) := (blk_cell HX6.out.zero 2).trans rfl
  have zc3 : W.cell? ⟨b2, 3, none⟩ = some (.int .i64 0) := (blk_cell HX6.out.zero 3).trans rfl
  have zc4 : W.cell? ⟨b2, 4, none⟩ = some (.int .i64 0) := (blk_cell HX6.out.zero 4).trans rfl
  have zc5 : W.cell? ⟨b2, 5, none⟩ = some (.int .i64 0) := (blk_cell HX6.out.zero 5).trans rfl
  have zc6 : W.cell? ⟨b2, 6, none⟩ = some (.bool false) := (blk_cell HX6.out.zero 6).trans rfl
  have zc7 : W.cell? ⟨b2, 7, none⟩ = some (.int .i64 0) := (blk_cell HX6.out.zero 7).trans rfl
  have zc8 : W.cell? ⟨b2, 8, none⟩ = some (.int .i64 0) := (blk_cell HX6.out.zero 8).trans rfl
  have zc9 : W.cell? ⟨b2, 9, none⟩ = some (.slice none 0 0) := (blk_cell HX6.out.zero 9).trans rfl
  have zc10 : W.cell? ⟨b2, 10, none⟩ = some (.int .i64 0) := (blk_cell HX6.out.zero 10).trans rfl
  have zc11 : W.cell? ⟨b2, 11, none⟩ = some (.int .i64 0) := (blk_cell HX6.out.zero 11).trans rfl
  have zc12 : W.cell? ⟨b2, 12, none⟩ = some (.int .i64 0) := (blk_cell HX6.out.zero 12).trans rfl
  have zc13 : W.cell? ⟨b2, 13, none⟩ = some (.slice none 0 0) := (blk_cell HX6.out.zero 13).trans rfl
  have zf0 := blk_frozen HX6.out.zero 0
  have zf1 := blk_frozen HX6.out.zero 1
  have zf2 := blk_frozen HX6.out.zero 2
  have zf3 := blk_frozen HX6.out.zero 3
  have zf4 := blk_frozen HX6.out.zero 4
  have zf5 := blk_frozen HX6.out.zero 5
  have zf6 := blk_frozen HX6.out.zero 6
  have zf7 := blk_frozen HX6.out.zero 7
  have zf8 := blk_frozen HX6.out.zero 8
  have zf9 := blk_frozen HX6.out.zero 9
  have zf10 := blk_frozen HX6.out.zero 10
  have zf11 := blk_frozen HX6.out.zero 11
  have zf12 := blk_frozen HX6.out.zero 12
  have zf13 := blk_frozen HX6.out.zero 13
  have zs0 : W.setCell ⟨b2, 0, none⟩ (.int .i64 0) = W := setCell_same HX6.out.zero rfl
  have zs1 : W.setCell ⟨b2, 1, none⟩ (.int .i64 0) = W := setCell_same HX6.out.zero rfl
  have zs2 : W.setCell ⟨b2, 2, none⟩ (.int .i64 0) = W := setCell_same HX6.out.zero rfl
  have zs3 : W.setCell ⟨b2, 3, none⟩ (.int .i64 0) = W := setCell_same HX6.out.zero rfl
  have zs4 : W.setCell ⟨b2, 4, none⟩ (.int .i64 0) = W := setCell_same HX6.out.zero rfl
  have zs5 : W.setCell ⟨b2, 5, none⟩ (.int .i64 0) = W := setCell_same HX6.out.zero rfl
  have zs6 : W.setCell ⟨b2, 6, none⟩ (.bool false) = W := setCell_same HX6.out.zero rfl
  have zs7 : W.setCell ⟨b2, 7, none⟩ (.int .i64 0) = W := setCell_same HX6.out.zero rfl
  have zs8 : W.setCell ⟨b2, 8, none⟩ (.int .i64 0) = W := setCell_same HX6.out.zero rfl
  have zs9 : W.setCell ⟨b2, 9, none⟩ (.slice none 0 0) = W := setCell_same HX6.out.zero rfl
  have zs10 : W.setCell ⟨b2, 10, none⟩ (.int .i64 0) = W := setCell_same HX6.out.zero rfl
  have zs11 : W.setCell ⟨b2, 11, none⟩ (.int .i64 0) = W := setCell_same HX6.out.zero rfl
  have zs12 : W.setCell ⟨b2, 12, none⟩ (.int .i64 0) = W := setCell_same HX6.out.zero rfl
  have zs13 : W.setCell ⟨b2, 13, none⟩ (.slice none 0 0) = W := setCell_same HX6.out.zero rfl
  go_wp2_with fail
  go_region
  go_wp2_with fail
  refine bodyPost_ret (results_ctt rfl _ _ b2 26 #[.int .i64 0, .int .i64 0, .int .i64 0, .int .i64 0, .int .i64 0, .int .i64 0, .bool false, .int .i64 0, .int .i64 0, .slice none 0 0, .int .i64 0, .int .i64 0, .int .i64 0, .slice none 0 0] (0, 0) _ rfl HX6.out.zero Tryz.underlying26 rfl (by kernel_rfl)) rfl ?_
  rw [HQ.out]
  exact Out.zero rfl (below_drew1 HX6.out.below)
end Dq
end Go.Proofs.YtaaifdclojkdmaaGreatDoor.MFr
