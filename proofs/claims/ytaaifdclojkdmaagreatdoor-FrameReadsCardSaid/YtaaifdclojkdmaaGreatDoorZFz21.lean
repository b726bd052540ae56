/- Texts of this claim, laid together by a program (wip/e/merge2.py): HIn, HQi, HAg, MFrx41. -/
import Derived.Test.YtaaifdclojkdmaaGreatDoorZFz20
import Derived.Test.YtaaifdclojkdmaaGreatDoorZFz14
import Derived.Test.YtaaifdclojkdmaaGreatDoorZFz15
import Derived.Test.YtaaifdclojkdmaaGreatDoorZFz16
import Derived.Test.YtaaifdclojkdmaaGreatDoorZFz17
import Derived.Test.YtaaifdclojkdmaaGreatDoorZFz18
import Derived.Test.YtaaifdclojkdmaaGreatDoorZFz19
import Derived.Test.YtaaifdclojkdmaaGreatDoorZFz2
set_option linter.unusedVariables false
set_option linter.unusedSimpArgs false
set_option maxRecDepth 100000
namespace Go.Proofs.YtaaifdclojkdmaaGreatDoor.MFr
open Go.RowKit Go.Proofs.YtaaifdclojkdmaaGreatDoorW.PrintWords Go.Proofs.YtaaifdclojkdmaaGreatDoorW.PrintLast Go.Proofs.YtaaifdclojkdmaaGreatDoorW.PrintMore Go.Proofs.YtaaifdclojkdmaaGreatDoor.Wire Go.Proofs.YtaaifdclojkdmaaGreatDoor.PSum
def isBys (l : List Int) : Bool := l.all (fun x => decide (0 ≤ x ∧ x ≤ 255))
theorem isBys_of {l : List Int} (h : isBys l = true) : Bys l := fun x hx => of_decide_eq_true (List.all_eq_true.mp h x hx)
def frame_Decode.f (l : List Int) : Option (Int × Int × Int × Int × Int × Int × Bool × Int × Int × List Int × Int × Int × Int × List Int × Int) :=
 if l.length ≤ 100000 ∧ isBys l = true then some ((parseF l).1.k, (parseF l).1.p, (parseF l).1.n, (parseF l).1.wt, (parseF l).1.msk, (parseF l).1.lk, (parseF l).1.fl, (parseF l).1.cy, (parseF l).1.of_, (parseF l).1.ag, (parseF l).1.f1, (parseF l).1.f2, (parseF l).1.sq, (parseF l).1.bd, (parseF l).2.1) else none
theorem frame_Decode.calls (A0 : Option Addr) (c0 : Nat) (l0 : List Int) (r1 r2 r3 r4 r5 r6 : Int) (r7 : Bool) (r8 r9 : Int) (r10 : List Int) (r11 r12 r13 : Int) (r14 : List Int) (r15 : Int) (w : World) (hr0 : Kd.C (Kd.int .u8) w A0 l0.length l0) (hc0 : l0.length ≤ c0) (h : frame_Decode.f l0 = some (r1, r2, r3, r4, r5, r6, r7, r8, r9, r10, r11, r12, r13, r14, r15)) :
  Calls Tryz.prog 6 #[.slice A0 l0.length c0] w fun e w' => ∃ v9_ v13_ : Value, e = .returned (.tuple #[.agg #[.int .i64 r1, .int .i64 r2, .int .i64 r3, .int .i64 r4, .int .i64 r5, .int .i64 r6, .bool r7, .int .i64 r8, .int .i64 r9, v9_, .int .i64 r11, .int .i64 r12, .int .i64 r13, v13_], .int .i64 r15]) ∧ Kd.R (Kd.int .i64) 3 w' w.heap.size (fun _ => True) v9_ r10 ∧ Kd.R (Kd.int .u8) 5 w' w.heap.size (fun _ => True) v13_ r14 ∧ Below w.heap.size w w' := by
 unfold frame_Decode.f at h
 split at h
 case isFalse => cases h
 rename_i hc
 simp only [Option.some.injEq, Prod.mk.injEq] at h
 obtain ⟨rfl, rfl, rfl, rfl, rfl, rfl, rfl, rfl, rfl, rfl, rfl, rfl, rfl, rfl, rfl⟩ := h
 refine (decode_walk A0 c0 l0 w hr0 hc0 hc.1 (isBys_of hc.2) (show parseF l0 = (⟨(parseF l0).1.k, (parseF l0).1.p, (parseF l0).1.n, (parseF l0).1.wt, (parseF l0).1.msk, (parseF l0).1.lk, (parseF l0).1.fl, (parseF l0).1.cy, (parseF l0).1.of_, (parseF l0).1.ag, (parseF l0).1.f1, (parseF l0).1.f2, (parseF l0).1.sq, (parseF l0).1.bd⟩, (parseF l0).2.1, (parseF l0).2.2) from rfl)).mono ?_
 rintro e w' ⟨A9, c9, A13, c13, rfl, h9, h13, hb⟩
 exact ⟨_, _, rfl, h9, h13, hb⟩
def frame_Why.f (l : List Int) : Option (Int × Int) := if l.length ≤ 100000 ∧ isBys l = true then some ((parseF l).2.1, (parseF l).2.2) else none
theorem frame_Why.calls (A0 : Option Addr) (c0 : Nat) (l0 : List Int) (r1 r2 : Int) (w : World) (hr0 : Kd.C (Kd.int .u8) w A0 l0.length l0) (hc0 : l0.length ≤ c0) (h : frame_Why.f l0 = some (r1, r2)) (hG : Gv w := by first | exact HG.out | exact HG.out.below (by repeat (first | exact HB.out | apply below_alloc | apply pw_below_drewN | apply below_drew1))) :
  Calls Tryz.prog 8 #[.slice A0 l0.length c0] w fun e w' => e = .returned (.tuple #[.int .i64 r1, .int .i64 r2]) ∧ Below w.heap.size w w' := by
 unfold frame_Why.f at h
 split at h
 case isFalse => cases h
 rename_i hc
 simp only [Option.some.injEq, Prod.mk.injEq] at h
 obtain ⟨rfl, rfl⟩ := h
 exact why_walk A0 c0 l0 w hr0 hc0 hc.1 (isBys_of hc.2) (show parseF l0 = (⟨(parseF l0).1.k, (parseF l0).1.p, (parseF l0).1.n, (parseF l0).1.wt, (parseF l0).1.msk, (parseF l0).1.lk, (parseF l0).1.fl, (parseF l0).1.cy, (parseF l0).1.of_, (parseF l0).1.ag, (parseF l0).1.f1, (parseF l0).1.f2, (parseF l0).1.sq, (parseF l0).1.bd⟩, (parseF l0).2.1, (parseF l0).2.2) from rfl) hG
end Go.Proofs.YtaaifdclojkdmaaGreatDoor.MFr
set_option linter.unusedVariables false
set_option linter.unusedSimpArgs false
set_option maxRecDepth 100000
namespace Go.Proofs.YtaaifdclojkdmaaGreatDoor.MFr
namespace Dq
open Go.RowKit Go.Proofs.YtaaifdclojkdmaaGreatDoorW.PrintWords Go.Proofs.YtaaifdclojkdmaaGreatDoorW.PrintLast Go.Proofs.YtaaifdclojkdmaaGreatDoorW.PrintMore Go.Proofs.YtaaifdclojkdmaaGreatDoor.Wire Go.Proofs.YtaaifdclojkdmaaGreatDoor.Evl Go.Proofs.YtaaifdclojkdmaaGreatDoor.PSum
theorem outQ_is (x : List Int) (k : Int) : outQ x (fieldsG x ⟨1, 0, 0⟩ k).1 (fieldsG x ⟨1, 0, 0⟩ k).2 =
  if (fieldsF x ⟨1, 0, 0⟩ k).2.e ≠ 0 then (Fr.zero, (fieldsF x ⟨1, 0, 0⟩ k).2.e, (fieldsF x ⟨1, 0, 0⟩ k).2.ea)
  else if 0 < (x.length : Int) - (fieldsF x ⟨1, 0, 0⟩ k).2.at_ then (Fr.zero, 3, (fieldsF x ⟨1, 0, 0⟩ k).2.at_)
  else ((fieldsF x ⟨1, 0, 0⟩ k).1, 0, 0) := by
 obtain ⟨⟨h1, h2, h3⟩, h4⟩ := fields_e (l := x) (E2.refl ⟨1, 0, 0⟩) k
 unfold outQ
 rw [← h1, ← h2]
 by_cases h0 : (fieldsF x ⟨1, 0, 0⟩ k).2.e = 0
 ·by_cases h5 : (fieldsF x ⟨1, 0, 0⟩ k).2.at_ < (x.length : Int)
  ·rw [if_pos h0, if_pos h5, if_neg (show ¬ ((fieldsF x ⟨1, 0, 0⟩ k).2.e ≠ 0) from fun q => q h0), if_pos (show 0 < (x.length : Int) - (fieldsF x ⟨1, 0, 0⟩ k).2.at_ by omega)]
  ·rw [if_pos h0, if_neg h5, if_neg (show ¬ ((fieldsF x ⟨1, 0, 0⟩ k).2.e ≠ 0) from fun q => q h0), if_neg (show ¬ 0 < (x.length : Int) - (fieldsF x ⟨1, 0, 0⟩ k).2.at_ by omega), h4 h0]
 ·rw [if_neg h0, if_pos (show (fieldsF x ⟨1, 0, 0⟩ k).2.e ≠ 0 from h0), ← h3 h0]
theorem read_walk (A0 : Option Addr) (c0 : Nat) (l : List Int) (w : World) (hr : Kd.C (Kd.int .u8) w A0 l.length l) (hc : l.length ≤ c0) (hl : l.length ≤ 100000) (hby : Bys l) :
  Calls Tryz.prog 16 #[.slice A0 l.length c0] w fun e w' => Out w w' e (parseF l).1 (parseF l).2.1 (parseF l).2.2 := by
 obtain ⟨ko, hko⟩ := (ropen_evl hby hl).some_
 unfold parseF
 by_cases h7 : l.length < 7
 ·rw [if_pos h7]
  exact read_short A0 c0 l w hr hc h7
 rw [if_neg h7]
 by_cases hs : isSld l = false
 ·rw [if_pos hs]
  rw [hs] at hko
  exact read_sum A0 c0 l w hr hc (by omega) (by omega) ko _ hko
 rw [if_neg hs]
 rw [if_pos (by simpa using hs)] at hko
 obtain ⟨x, hx⟩ : ∃ x, l.take (l.length - 4) = x := ⟨_, rfl⟩
 have hxl : x.length = l.length - 4 := by rw [← hx, List.length_take]; omega
 have hxb : Bys x := by rw [← hx]; exact bys_take hby _
 have hx0 : rd x 0 = rd l 0 := by rw [← hx]; exact rd_take (by omega)
 have hn : numR (cut x 0 1) = rd l 0 := (num_first hxb (by omega)).trans hx0
 rw [hx] at hko ⊢
 by_cases hk : rd l 0 < 1 ∨ 5 < rd l 0
 ·rw [if_pos hk]
  exact read_kind A0 c0 l w hr hc (by omega) (by omega) ko _ hko _ hx0 (by omega) hk
 rw [if_neg hk]
 have hq := outQ_is x (rd l 0)
 rw [← hq]
 clear hq
 generalize rd l 0 = k at *
 rcases (show k = 1 ∨ k = 2 ∨ k = 3 ∨ k = 4 ∨ k = 5 by omega) with rfl | rfl | rfl | rfl | rfl
 ·exact read1 A0 c0 l w hr hc (by omega) (by omega) ko hko hx0 hn (by omega) (by omega) hxb rfl rfl rfl rfl rfl rfl
 ·exact read2 A0 c0 l w hr hc (by omega) (by omega) ko hko hx0 hn (by omega) (by omega) hxb rfl rfl rfl rfl rfl rfl rfl rfl rfl
 ·exact read3 A0 c0 l w hr hc (by omega) (by omega) ko hko hx0 hn (by omega) (by omega) hxb rfl rfl rfl rfl rfl rfl rfl rfl rfl rfl rfl rfl
 ·exact read4 A0 c0 l w hr hc (by omega) (by omega) ko hko hx0 hn (by omega) (by omega) hxb rfl rfl rfl rfl rfl rfl rfl
 ·exact read5 A0 c0 l w hr hc (by omega) (by omega) ko hko hx0 hn (by omega) (by omega) hxb rfl rfl rfl rfl rfl rfl rfl rfl rfl rfl rfl rfl rfl
theorem rdecode_walk (A0 : Option Addr) (c0 : Nat) (l : List Int) (w : World) (hr : Kd.C (Kd.int .u8) w A0 l.length l) (hc : l.length ≤ c0) (hl : l.length ≤ 100000) (hby : Bys l) {f0 f1 f2 f3 f4 f5 : Int} {f6 : Bool} {f7 f8 : Int} {f9 : List Int} {f10 f11 f12 : Int} {f13 : List Int} {er ea : Int} (hp : parseF l = (⟨f0, f1, f2, f3, f4, f5, f6, f7, f8, f9, f10, f11, f12, f13⟩, er, ea)) :
  Calls Tryz.prog 7 #[.slice A0 l.length c0] w fun e w' => ∃ A9 c9 A13 c13, e = .returned (.tuple #[.agg #[.int .i64 f0, .int .i64 f1, .int .i64 f2, .int .i64 f3, .int .i64 f4, .int .i64 f5, .bool f6, .int .i64 f7, .int .i64 f8, .slice A9 f9.length c9, .int .i64 f10, .int .i64 f11, .int .i64 f12, .slice A13 f13.length c13], .int .i64 er]) ∧ (Kd.int .i64).R 3 w' w.heap.size (fun _ => True) (.slice A9 f9.length c9) f9 ∧ (Kd.int .u8).R 5 w' w.heap.size (fun _ => True) (.slice A13 f13.length c13) f13 ∧ Below w.heap.size w w' := by
 have HP := Aside0.mk (fun W hW => read_walk A0 c0 l W (Kd.C_below hr hW) hc hl hby)
 rw [hp] at HP
 clear hr hc hl hby hp
 go_enter Tryz.func7, Tryz.ntmps7
 go_wp2_with fail
 have HB := Aside0.mk (below_alloc (Below.refl w.heap.size w) (.cells #[.int .i64 0, .int .i64 0, .int .i64 0, .int .i64 0, .int .i64 0, .int .i64 0, .bool false, .int .i64 0, .int .i64 0, .slice none 0 0, .int .i64 0, .int .i64 0, .int .i64 0, .slice none 0 0] 26))
 have HZ : Aside0 ((w.alloc (.cells #[.int .i64 0, .int .i64 0, .int .i64 0, .int .i64 0, .int .i64 0, .int .i64 0, .bool false, .int .i64 0, .int .i64 0, .slice none 0 0, .int .i64 0, .int .i64 0, .int .i64 0, .slice none 0 0] 26)).heap[w.heap.size]? = some (.cells #[.int .i64 0, .int .i64 0, .int .i64 0, .int .i64 0, .int .i64 0, .int .i64 0, .bool false, .int .i64 0, .int .i64 0, .slice none 0 0, .int .i64 0, .int .i64 0, .int .i64 0, .slice none 0 0] 26 (0, 0))) := ⟨heap_alloc_new _ _⟩
 generalize w.alloc (.cells #[.int .i64 0, .int .i64 0, .int .i64 0, .int .i64 0, .int .i64 0, .int .i64 0, .bool false, .int .i64 0, .int .i64 0, .slice none 0 0, .int .i64 0, .int .i64 0, .int .i64 0, .slice none 0 0] 26) = wa at *
 obtain ⟨b2, hb2⟩ : ∃ b2, b2 = w.heap.size := ⟨_, rfl⟩
 rw [← hb2]
 rw [← hb2] at HZ
 have HB2 := Aside0.mk hb2
 clear hb2
 refine (HP.out wa HB.out).mono ?_
 rintro e' w1 ⟨A9, c9, A13, c13, rfl, h9, h13, hb⟩
 have H9 := Aside0.mk h9
 have H13 := Aside0.mk h13
 have HB1 := Aside0.mk (below_step HB.out hb)
 have HZ1 := Aside0.mk ((hb.block b2 (blk_lt HZ.out)).trans HZ.out)
 have HSZ := Aside0.mk (blk_lt HZ.out)
 clear h9 h13 hb
 go_upto_region 2 with fail
 have kb := below_alloc (Below.refl w1.heap.size w1) (.cells #[.int .i64 f0, .int .i64 f1, .int .i64 f2, .int .i64 f3, .int .i64 f4, .int .i64 f5, .bool f6, .int .i64 f7, .int .i64 f8, .slice A9 f9.length c9, .int .i64 f10, .int .i64 f11, .int .i64 f12, .slice A13 f13.length c13] 26)
 have H92 := Aside0.mk (Kd.R_below H9.out kb)
 have H132 := Aside0.mk (Kd.R_below H13.out kb)
 have HB_ := Aside0.mk (below_step HB1.out kb)
 have HZ2 := Aside0.mk ((kb.block b2 (blk_lt HZ1.out)).trans HZ1.out)
 have HX : Aside0 ((w1.alloc (.cells #[.int .i64 f0, .int .i64 f1, .int .i64 f2, .int .i64 f3, .int .i64 f4, .int .i64 f5, .bool f6, .int .i64 f7, .int .i64 f8, .slice A9 f9.length c9, .int .i64 f10, .int .i64 f11, .int .i64 f12, .slice A13 f13.length c13] 26)).heap[w1.heap.size]? = some (.cells #[.int .i64 f0, .int .i64 f1, .int .i64 f2, .int .i64 f3, .int .i64 f4, .int .i64 f5, .bool f6, .int .i64 f7, .int .i64 f8, .slice A9 f9.length c9, .int .i64 f10, .int .i64 f11, .int .i64 f12, .slice A13 f13.length c13] 26 (0, 0))) := ⟨heap_alloc_new _ _⟩
 clear kb
 generalize w1.alloc (.cells #[.int .i64 f0, .int .i64 f1, .int .i64 f2, .int .i64 f3, .int .i64 f4, .int .i64 f5, .bool f6, .int .i64 f7, .int .i64 f8, .slice A9 f9.length c9, .int .i64 f10, .int .i64 f11, .int .i64 f12, .slice A13 f13.length c13] 26) = w2 at *
 generalize w1.heap.size = b4 at *
 obtain ⟨xc0, xc1, xc2, xc3, xc4, xc5, xc6, xc7, xc8, xc9, xc10, xc11, xc12, xc13⟩ := cellsK14 HX.out
 obtain ⟨zc0, zc1, zc2, zc3, zc4, zc5, zc6, zc7, zc8, zc9, zc10, zc11, zc12, zc13⟩ := cellsK14 HZ2.out
 have zf0 := blk_frozen HZ2.out 0
 have zf1 := blk_frozen HZ2.out 1
 have zf2 := blk_frozen HZ2.out 2
 have zf3 := blk_frozen HZ2.out 3
 have zf4 := blk_frozen HZ2.out 4
 have zf5 := blk_frozen HZ2.out 5
 have zf6 := blk_frozen HZ2.out 6
 have zf7 := blk_frozen HZ2.out 7
 have zf8 := blk_frozen HZ2.out 8
 have zf9 := blk_frozen HZ2.out 9
 have zf10 := blk_frozen HZ2.out 10
 have zf11 := blk_frozen HZ2.out 11
 have zf12 := blk_frozen HZ2.out 12
 have zf13 := blk_frozen HZ2.out 13
 go_wp2_with fail
 have hbb : ∀ q, wa.heap.size ≤ q → q ≠ b2 := fun q hq => by have := HSZ.out; omega
 have HBF : Below w.heap.size w ((((((((((((((w2.setCell ⟨b2, 0, none⟩ (.int .i64 f0)).setCell ⟨b2, 1, none⟩ (.int .i64 f1)).setCell ⟨b2, 2, none⟩ (.int .i64 f2)).setCell ⟨b2, 3, none⟩ (.int .i64 f3)).setCell ⟨b2, 4, none⟩ (.int .i64 f4)).setCell ⟨b2, 5, none⟩ (.int .i64 f5)).setCell ⟨b2, 6, none⟩ (.bool f6)).setCell ⟨b2, 7, none⟩ (.int .i64 f7)).setCell ⟨b2, 8, none⟩ (.int .i64 f8)).setCell ⟨b2, 9, none⟩ (.slice A9 f9.length c9)).setCell ⟨b2, 10, none⟩ (.int .i64 f10)).setCell ⟨b2, 11, none⟩ (.int .i64 f11)).setCell ⟨b2, 12, none⟩ (.int .i64 f12)).setCell ⟨b2, 13, none⟩ (.slice A13 f13.length c13)) := below_set14 HB_.out (by have := HB2.out; omega) _ _ _ _ _ _ _ _ _ _ _ _ _ _
 have HBK : ((((((((((((((w2.setCell ⟨b2, 0, none⟩ (.int .i64 f0)).setCell ⟨b2, 1, none⟩ (.int .i64 f1)).setCell ⟨b2, 2, none⟩ (.int .i64 f2)).setCell ⟨b2, 3, none⟩ (.int .i64 f3)).setCell ⟨b2, 4, none⟩ (.int .i64 f4)).setCell ⟨b2, 5, none⟩ (.int .i64 f5)).setCell ⟨b2, 6, none⟩ (.bool f6)).setCell ⟨b2, 7, none⟩ (.int .i64 f7)).setCell ⟨b2, 8, none⟩ (.int .i64 f8)).setCell ⟨b2, 9, none⟩ (.slice A9 f9.length c9)).setCell ⟨b2, 10, none⟩ (.int .i64 f10)).setCell ⟨b2, 11, none⟩ (.int .i64 f11)).setCell ⟨b2, 12, none⟩ (.int .i64 f12)).setCell ⟨b2, 13, none⟩ (.slice A13 f13.length c13)).heap[b2]? = some (.cells #[.int .i64 f0, .int .i64 f1, .int .i64 f2, .int .i64 f3, .int .i64 f4, .int .i64 f5, .bool f6, .int .i64 f7, .int .i64 f8, .slice A9 f9.length c9, .int .i64 f10, .int .i64 f11, .int .i64 f12, .slice A13 f13.length c13] 26 (0, 0)) := blk_set14 HZ2.out _ _ _ _ _ _ _ _ _ _ _ _ _ _
 have h0 := Kd.R_mono (ok' := fun q => wa.heap.size ≤ q) (Kd.R_bound H92.out) (fun q hq => hq.2.1)
 have h1 := Kd.R_mono (ok' := fun q => wa.heap.size ≤ q) (Kd.R_bound H132.out) (fun q hq => hq.2.1)
 have HR9 : (Kd.int .i64).R 3 ((((((((((((((w2.setCell ⟨b2, 0, none⟩ (.int .i64 f0)).setCell ⟨b2, 1, none⟩ (.int .i64 f1)).setCell ⟨b2, 2, none⟩ (.int .i64 f2)).setCell ⟨b2, 3, none⟩ (.int .i64 f3)).setCell ⟨b2, 4, none⟩ (.int .i64 f4)).setCell ⟨b2, 5, none⟩ (.int .i64 f5)).setCell ⟨b2, 6, none⟩ (.bool f6)).setCell ⟨b2, 7, none⟩ (.int .i64 f7)).setCell ⟨b2, 8, none⟩ (.int .i64 f8)).setCell ⟨b2, 9, none⟩ (.slice A9 f9.length c9)).setCell ⟨b2, 10, none⟩ (.int .i64 f10)).setCell ⟨b2, 11, none⟩ (.int .i64 f11)).setCell ⟨b2, 12, none⟩ (.int .i64 f12)).setCell ⟨b2, 13, none⟩ (.slice A13 f13.length c13)) w.heap.size (fun _ => True) (.slice A9 f9.length c9) f9 := Kd.R_lower (Kd.R_mono (ok := fun q => wa.heap.size ≤ q) (R_set14 h0 hbb _ _ _ _ _ _ _ _ _ _ _ _ _ _) (fun _ _ => trivial)) HB.out.size
 have HR13 : (Kd.int .u8).R 5 ((((((((((((((w2.setCell ⟨b2, 0, none⟩ (.int .i64 f0)).setCell ⟨b2, 1, none⟩ (.int .i64 f1)).setCell ⟨b2, 2, none⟩ (.int .i64 f2)).setCell ⟨b2, 3, none⟩ (.int .i64 f3)).setCell ⟨b2, 4, none⟩ (.int .i64 f4)).setCell ⟨b2, 5, none⟩ (.int .i64 f5)).setCell ⟨b2, 6, none⟩ (.bool f6)).setCell ⟨b2, 7, none⟩ (.int .i64 f7)).setCell ⟨b2, 8, none⟩ (.int .i64 f8)).setCell ⟨b2, 9, none⟩ (.slice A9 f9.length c9)).setCell ⟨b2, 10, none⟩ (.int .i64 f10)).setCell ⟨b2, 11, none⟩ (.int .i64 f11)).setCell ⟨b2, 12, none⟩ (.int .i64 f12)).setCell ⟨b2, 13, none⟩ (.slice A13 f13.length c13)) w.heap.size (fun _ => True) (.slice A13 f13.length c13) f13 := Kd.R_lower (Kd.R_mono (ok := fun q => wa.heap.size ≤ q) (R_set14 h1 hbb _ _ _ _ _ _ _ _ _ _ _ _ _ _) (fun _ _ => trivial)) HB.out.size
 generalize ((((((((((((((w2.setCell ⟨b2, 0, none⟩ (.int .i64 f0)).setCell ⟨b2, 1, none⟩ (.int .i64 f1)).setCell ⟨b2, 2, none⟩ (.int .i64 f2)).setCell ⟨b2, 3, none⟩ (.int .i64 f3)).setCell ⟨b2, 4, none⟩ (.int .i64 f4)).setCell ⟨b2, 5, none⟩ (.int .i64 f5)).setCell ⟨b2, 6, none⟩ (.bool f6)).setCell ⟨b2, 7, none⟩ (.int .i64 f7)).setCell ⟨b2, 8, none⟩ (.int .i64 f8)).setCell ⟨b2, 9, none⟩ (.slice A9 f9.length c9)).setCell ⟨b2, 10, none⟩ (.int .i64 f10)).setCell ⟨b2, 11, none⟩ (.int .i64 f11)).setCell ⟨b2, 12, none⟩ (.int .i64 f12)).setCell ⟨b2, 13, none⟩ (.slice A13 f13.length c13)) = wz at HBF HBK HR9 HR13 ⊢
 refine bodyPost_ret (results_ct rfl _ _ b2 26 #[.int .i64 f0, .int .i64 f1, .int .i64 f2, .int .i64 f3, .int .i64 f4, .int .i64 f5, .bool f6, .int .i64 f7, .int .i64 f8, .slice A9 f9.length c9, .int .i64 f10, .int .i64 f11, .int .i64 f12, .slice A13 f13.length c13] (0, 0) _ rfl HBK Tryz.underlying26 rfl (by kernel_rfl)) rfl ?_
 exact ⟨_, _, _, _, rfl, HR9, HR13, HBF⟩
theorem rwhy_walk (A0 : Option Addr) (c0 : Nat) (l : List Int) (w : World) (hr : Kd.C (Kd.int .u8) w A0 l.length l) (hc : l.length ≤ c0) (hl : l.length ≤ 100000) (hby : Bys l) {f0 f1 f2 f3 f4 f5 : Int} {f6 : Bool} {f7 f8 : Int} {f9 : List Int} {f10 f11 f12 : Int} {f13 : List Int} {er ea : Int} (hp : parseF l = (⟨f0, f1, f2, f3, f4, f5, f6, f7, f8, f9, f10, f11, f12, f13⟩, er, ea)) :
  Calls Tryz.prog 9 #[.slice A0 l.length c0] w fun e w' => e = .returned (.tuple #[.int .i64 er, .int .i64 ea]) ∧ Below w.heap.size w w' := by
 have HP := Aside0.mk (fun W hW => read_walk A0 c0 l W (Kd.C_below hr hW) hc hl hby)
 rw [hp] at HP
 clear hr hc hl hby hp
 go_enter Tryz.func9, Tryz.ntmps9
 go_wp2_with fail
 refine (HP.out _ (Below.refl _ _)).mono ?_
 rintro e' w1 ⟨A9, c9, A13, c13, rfl, h9, h13, hb⟩
 have HB1 := Aside0.mk hb
 clear h9 h13 hb
 go_upto_region 2 with fail
 have HB_ := Aside0.mk (below_alloc HB1.out (.cells #[.int .i64 f0, .int .i64 f1, .int .i64 f2, .int .i64 f3, .int .i64 f4, .int .i64 f5, .bool f6, .int .i64 f7, .int .i64 f8, .slice A9 f9.length c9, .int .i64 f10, .int .i64 f11, .int .i64 f12, .slice A13 f13.length c13] 26))
 generalize w1.alloc (.cells #[.int .i64 f0, .int .i64 f1, .int .i64 f2, .int .i64 f3, .int .i64 f4, .int .i64 f5, .bool f6, .int .i64 f7, .int .i64 f8, .slice A9 f9.length c9, .int .i64 f10, .int .i64 f11, .int .i64 f12, .slice A13 f13.length c13] 26) = w2 at *
 go_wp2_with fail
 go_ret2
 exact ⟨rfl, HB_.out⟩
end Dq
open Go.RowKit Go.Proofs.YtaaifdclojkdmaaGreatDoorW.PrintWords Go.Proofs.YtaaifdclojkdmaaGreatDoorW.PrintLast Go.Proofs.YtaaifdclojkdmaaGreatDoorW.PrintMore Go.Proofs.YtaaifdclojkdmaaGreatDoor.Wire Go.Proofs.YtaaifdclojkdmaaGreatDoor.Evl Go.Proofs.YtaaifdclojkdmaaGreatDoor.PSum
def drumlineref1_Decode.f (l : List Int) : Option (Int × Int × Int × Int × Int × Int × Bool × Int × Int × List Int × Int × Int × Int × List Int × Int) := frame_Decode.f l
theorem drumlineref1_Decode.calls (A0 : Option Addr) (c0 : Nat) (l0 : List Int) (r1 r2 r3 r4 r5 r6 : Int) (r7 : Bool) (r8 r9 : Int) (r10 : List Int) (r11 r12 r13 : Int) (r14 : List Int) (r15 : Int) (w : World) (hr0 : Kd.C (Kd.int .u8) w A0 l0.length l0) (hc0 : l0.length ≤ c0) (h : drumlineref1_Decode.f l0 = some (r1, r2, r3, r4, r5, r6, r7, r8, r9, r10, r11, r12, r13, r14, r15)) :
  Calls Tryz.prog 7 #[.slice A0 l0.length c0] w fun e w' => ∃ v9_ v13_ : Value, e = .returned (.tuple #[.agg #[.int .i64 r1, .int .i64 r2, .int .i64 r3, .int .i64 r4, .int .i64 r5, .int .i64 r6, .bool r7, .int .i64 r8, .int .i64 r9, v9_, .int .i64 r11, .int .i64 r12, .int .i64 r13, v13_], .int .i64 r15]) ∧ Kd.R (Kd.int .i64) 3 w' w.heap.size (fun _ => True) v9_ r10 ∧ Kd.R (Kd.int .u8) 5 w' w.heap.size (fun _ => True) v13_ r14 ∧ Below w.heap.size w w' := by
 unfold drumlineref1_Decode.f frame_Decode.f at h
 split at h
 case isFalse => cases h
 rename_i hc
 simp only [Option.some.injEq, Prod.mk.injEq] at h
 obtain ⟨rfl, rfl, rfl, rfl, rfl, rfl, rfl, rfl, rfl, rfl, rfl, rfl, rfl, rfl, rfl⟩ := h
 refine (Dq.rdecode_walk A0 c0 l0 w hr0 hc0 hc.1 (isBys_of hc.2) (show parseF l0 = (⟨(parseF l0).1.k, (parseF l0).1.p, (parseF l0).1.n, (parseF l0).1.wt, (parseF l0).1.msk, (parseF l0).1.lk, (parseF l0).1.fl, (parseF l0).1.cy, (parseF l0).1.of_, (parseF l0).1.ag, (parseF l0).1.f1, (parseF l0).1.f2, (parseF l0).1.sq, (parseF l0).1.bd⟩, (parseF l0).2.1, (parseF l0).2.2) from rfl)).mono ?_
 rintro e w' ⟨A9, c9, A13, c13, rfl, h9, h13, hb⟩
 exact ⟨_, _, rfl, h9, h13, hb⟩
def drumlineref1_Why.f (l : List Int) : Option (Int × Int) := frame_Why.f l
theorem drumlineref1_Why.calls (A0 : Option Addr) (c0 : Nat) (l0 : List Int) (r1 r2 : Int) (w : World) (hr0 : Kd.C (Kd.int .u8) w A0 l0.length l0) (hc0 : l0.length ≤ c0) (h : drumlineref1_Why.f l0 = some (r1, r2)) :
  Calls Tryz.prog 9 #[.slice A0 l0.length c0] w fun e w' => e = .returned (.tuple #[.int .i64 r1, .int .i64 r2]) ∧ Below w.heap.size w w' := by
 unfold drumlineref1_Why.f frame_Why.f at h
 split at h
 case isFalse => cases h
 rename_i hc
 simp only [Option.some.injEq, Prod.mk.injEq] at h
 obtain ⟨rfl, rfl⟩ := h
 exact Dq.rwhy_walk A0 c0 l0 w hr0 hc0 hc.1 (isBys_of hc.2) (show parseF l0 = (⟨(parseF l0).1.k, (parseF l0).1.p, (parseF l0).1.n, (parseF l0).1.wt, (parseF l0).1.msk, (parseF l0).1.lk, (parseF l0).1.fl, (parseF l0).1.cy, (parseF l0).1.of_, (parseF l0).1.ag, (parseF l0).1.f1, (parseF l0).1.f2, (parseF l0).1.sq, (parseF l0).1.bd⟩, (parseF l0).2.1, (parseF l0).2.2) from rfl)
end Go.Proofs.YtaaifdclojkdmaaGreatDoor.MFr
set_option linter.unusedVariables false
set_option linter.unusedSimpArgs false
set_option maxRecDepth 100000
namespace Go.Proofs.YtaaifdclojkdmaaGreatDoor.MFr
open Go.RowKit Go.Proofs.YtaaifdclojkdmaaGreatDoorW.PrintWords Go.Proofs.YtaaifdclojkdmaaGreatDoorW.PrintLast Go.Proofs.YtaaifdclojkdmaaGreatDoorW.PrintMore
theorem entersT {f : Nat} {fn : Func} {c : Code} (hf : Tryz.prog.funcs[f]? = some fn) (hn : (fn.name == "runtime.NumGoroutine") = false) (hb : fn.body = some c) (args : Array Value) (w : World) : (callFunc f args).run Tryz.prog w = .ok (.enter f args) w := by
 have hne : ¬ (fn.name = "runtime.NumGoroutine") := fun e => by rw [e] at hn; exact absurd hn (by decide)
 simp [callFunc, hf, hne, hb, mark]
def PredB (g : Nat) (lb : Array Value) (p : Int → Bool) (w : World) : Prop :=
 ∀ (W : World) (x : Int), Below w.heap.size w W → Calls Tryz.prog g (#[.int .i64 x] ++ lb) W fun e w' => e = .returned (.bool (p x)) ∧ Below W.heap.size W w'
def findI (p : Int → Bool) (l : List Int) : Int := match l.findIdx? p with | some i => (i : Int) | none => -1
theorem findI_hit {p : Int → Bool} {l : List Int} {i : Nat} (hi : i < l.length) (hp : p (rd l i) = true) (hb : ∀ j : Nat, j < i → p (rd l j) = false) : findI p l = i := by
 have : l.findIdx? p = some i := by
  rw [List.findIdx?_eq_some_iff_getElem]
  refine ⟨hi, by simpa [rd, List.getD_eq_getElem?_getD, hi] using hp, fun j hj => ?_⟩
  have := hb j hj
  have hjl : j < l.length := by omega
  simpa [rd, List.getD_eq_getElem?_getD, hjl] using this
 unfold findI
 rw [this]
theorem findI_miss {p : Int → Bool} {l : List Int} (hb : ∀ j : Nat, j < l.length → p (rd l j) = false) : findI p l = -1 := by
 have : l.findIdx? p = none := by
  rw [List.findIdx?_eq_none_iff]
  intro x hx
  obtain ⟨j, hj, rfl⟩ := List.mem_iff_getElem.1 hx
  have := hb j hj
  simpa [rd, List.getD_eq_getElem?_getD, hj] using this
 unfold findI
 rw [this]
theorem findI_any (p : Int → Bool) (l : List Int) : decide (0 ≤ findI p l) = l.any p := by
 unfold findI
 cases h : l.findIdx? p with
 | none =>
  rw [List.findIdx?_eq_none_iff] at h
  simp only [show decide ((0 : Int) ≤ -1) = false by decide]
  symm
  rw [List.any_eq_false]
  intro x hx
  simp [h x hx]
 | some i =>
  rw [List.findIdx?_eq_some_iff_getElem] at h
  obtain ⟨hi, hp, _⟩ := h
  simp only [show decide ((0 : Int) ≤ (i : Int)) = true from decide_eq_true (by omega)]
  symm
  rw [List.any_eq_true]
  exact ⟨_, List.getElem_mem hi, hp⟩
set_option maxHeartbeats 1000000 in
set_option maxRecDepth 4000 in
theorem indexFunc (p : Int → Bool) (g : Nat) (lb : Array Value) (eg : ∀ args w, (callFunc g args).run Tryz.prog w = .ok (.enter g args) w) (A0 : Option Addr) (c0 : Nat) (l : List Int) (w : World)
  (hr : Kd.C (Kd.int .i64) w A0 l.length l) (hl : l.length ≤ 1000000) (hp : PredB g lb p w) :
  Calls Tryz.prog 84 #[.slice A0 l.length c0, .func (.func g) #[] lb] w fun e w' => e = .returned (.int .i64 (findI p l)) ∧ Below w.heap.size w w' := by
 have HR := Aside0.mk hr
 have HP := Aside0.mk hp
 clear hr hp
 go_enter Tryz.func84, Tryz.ntmps84
 go_wp2_with fail
 go_loopg [5, 8] (l.length + 1) (fun kq _ v8 w' => ∃ i : Int, v8 = .int .i64 i ∧ Aside0 (kq + i = l.length + 1 ∧ 0 ≤ i) ∧ Aside0 (Below w.heap.size w w') ∧ Aside0 (∀ j : Nat, (j : Int) < i → p (rd l j) = false))
 case atStart => exact ⟨0, rfl, ⟨by omega⟩, ⟨Below.refl _ _⟩, ⟨fun j hj => absurd hj (by omega)⟩⟩
 case round =>
  obtain ⟨i, rfl, HK, HB, HN⟩ := hrel
  by_cases hi : i < (l.length : Int)
  ·have h0 := HK.out.2
   obtain ⟨ad, e, x0⟩ := Kd.at_int (Kd.C_below HR.out HB.out) i h0 hi
   cases e
   have hcall := HP.out wr (rd l i) HB.out
   have hlt : decide (i < (l.length : Int)) = true := decide_eq_true hi
   have hpx : Aside0 (p (rd l i) = p (rd l i)) := ⟨rfl⟩
   have Hrd : Aside0 (∃ x, rd l i = x) := ⟨_, rfl⟩
   obtain ⟨x, hx⟩ := Hrd.out
   rw [hx] at x0 hcall
   have HX := Aside0.mk hx
   clear Hrd hpx hx
   have p0 := eq_true h0
   have p1 := eq_true hi
   have hw1 : wrap64 (i + 1) = i + 1 := by unfold wrap64; omega
   cases gk with
   | zero => exact absurd HK.out (by omega)
   | succ k1 =>
   cases hq : p x with
   | true =>
    rw [hq] at hcall
    go_wp2_with fail
    refine hcall.mono ?_
    rintro e w' ⟨rfl, hb'⟩
    have HB' := Aside0.mk hb'
    clear hb'
    go_wp2_with fail
    go_ret
    refine ⟨?_, below_step HB.out HB'.out⟩
    have e1 : i = (i.toNat : Int) := by omega
    rw [findI_hit (i := i.toNat) (by omega) (by rw [← e1, HX.out]; exact hq) (fun j hj => HN.out j (by omega)), ← e1]
    rfl
   | false =>
    rw [hq] at hcall
    go_wp2_with fail
    refine hcall.mono ?_
    rintro e w' ⟨rfl, hb'⟩
    have HB' := Aside0.mk hb'
    clear hb'
    go_wp2_with fail
    go_roundg k1
    case measure => have := HK.out; omega
    case rel =>
     refine ⟨i + 1, rfl, ⟨by have := HK.out; omega⟩, ⟨below_step HB.out HB'.out⟩, ⟨fun j hj => ?_⟩⟩
     by_cases e : (j : Int) = i
     ·rw [e, HX.out]; exact hq
     ·exact HN.out j (by omega)
  ·have hlt : decide (i < (l.length : Int)) = false := decide_eq_false hi
   go_wp2_with fail
   go_ret
   refine ⟨?_, HB.out⟩
   rw [findI_miss (fun j hj => HN.out j (by omega))]
   rfl
set_option maxHeartbeats 1000000 in
theorem containsFunc (p : Int → Bool) (g : Nat) (lb : Array Value) (eg : ∀ args w, (callFunc g args).run Tryz.prog w = .ok (.enter g args) w) (A0 : Option Addr) (c0 : Nat) (l : List Int) (w : World)
  (hr : Kd.C (Kd.int .i64) w A0 l.length l) (hl : l.length ≤ 1000000) (hp : PredB g lb p w) :
  Calls Tryz.prog 71 #[.slice A0 l.length c0, .func (.func g) #[] lb] w fun e w' => e = .returned (.bool (l.any p)) ∧ Below w.heap.size w w' := by
 have hi := indexFunc p g lb eg A0 c0 l w hr hl hp
 rw [← findI_any]
 generalize findI p l = r at hi ⊢
 clear hr hl hp eg
 go_enter Tryz.func71, Tryz.ntmps71
 go_wp2_with fail
 refine hi.mono ?_
 rintro e w1 ⟨rfl, hb⟩
 have HB := Aside0.mk hb
 clear hb
 go_wp2_with fail
 go_ret
 exact ⟨rfl, HB.out⟩
def noAge (x : Int) : Bool := !decide (0 ≤ x ∧ x ≤ 201)
theorem age_walk (x : Int) (w : World) :
  Calls Tryz.prog 73 #[.int .i64 x] w fun e w' => e = .returned (.bool (decide (0 ≤ x ∧ x ≤ 201))) ∧ w' = w := by
 by_cases h1 : 0 ≤ x
 ·have d1 : decide (0 ≤ x) = true := decide_eq_true h1
  have HX : Aside0 (decide (0 ≤ x ∧ x ≤ 201) = decide (x ≤ 201)) := ⟨by simp [h1]⟩
  rw [HX.out]
  clear h1 HX
  go_enter Tryz.func73, Tryz.ntmps73
  go_wp2_with fail
  go_ret
  exact ⟨rfl, rfl⟩
 ·have d1 : decide (0 ≤ x) = false := decide_eq_false h1
  have HX : Aside0 (decide (0 ≤ x ∧ x ≤ 201) = false) := ⟨by simp [h1]⟩
  rw [HX.out]
  clear h1 HX
  go_enter Tryz.func73, Tryz.ntmps73
  go_wp2_with fail
  go_ret
  exact ⟨rfl, rfl⟩
theorem noAge_walk (x : Int) (w : World) :
  Calls Tryz.prog 72 #[.int .i64 x] w fun e w' => e = .returned (.bool (noAge x)) ∧ Below w.heap.size w w' := by
 have HA := Aside0.mk (age_walk x w)
 obtain ⟨r, hr⟩ : ∃ r, decide (0 ≤ x ∧ x ≤ 201) = r := ⟨_, rfl⟩
 have HN : Aside0 (noAge x = !r) := ⟨by unfold noAge; rw [hr]⟩
 rw [hr] at HA
 rw [HN.out]
 clear hr HN
 go_enter Tryz.func72, Tryz.ntmps72
 go_wp2_with fail
 refine HA.out.mono ?_
 rintro e w1 ⟨rfl, rfl⟩
 go_wp2_with fail
 go_ret
 exact ⟨rfl, Below.refl _ _⟩
def agesOk (l : List Int) : Bool := decide (1 ≤ l.length ∧ l.length ≤ 6) && !l.any noAge
set_option maxHeartbeats 1000000 in
theorem fages_walk (A0 : Option Addr) (c0 : Nat) (l : List Int) (w : World) (hr : Kd.C (Kd.int .i64) w A0 l.length l) :
  Calls Tryz.prog 49 #[.slice A0 l.length c0] w fun e w' => e = .returned (.bool (agesOk l)) ∧ Below w.heap.size w w' := by
 by_cases h1 : 1 ≤ l.length
 ·by_cases h6 : l.length ≤ 6
  ·have hc := containsFunc noAge 72 #[] (entersT Tryz.func72 (by kernel_rfl) rfl) A0 c0 l w hr (by omega) (fun W x hW => noAge_walk x W)
   have HC := Aside0.mk hc
   have d1 : decide ((1 : Int) ≤ (l.length : Int)) = true := decide_eq_true (by omega)
   have d6 : decide ((l.length : Int) ≤ 6) = true := decide_eq_true (by omega)
   have HX : Aside0 (agesOk l = !l.any noAge) := ⟨by unfold agesOk; rw [decide_eq_true ⟨h1, h6⟩]; rfl⟩
   rw [HX.out]
   generalize l.any noAge = r at *
   clear hc hr h1 h6 HX
   go_enter Tryz.func49, Tryz.ntmps49
   go_wp2_with fail
   refine HC.out.mono ?_
   rintro e w1 ⟨rfl, hb⟩
   have HB := Aside0.mk hb
   clear hb
   go_wp2_with fail
   go_ret
   exact ⟨rfl, HB.out⟩
  ·have d1 : decide ((1 : Int) ≤ (l.length : Int)) = true := decide_eq_true (by omega)
   have d6 : decide ((l.length : Int) ≤ 6) = false := decide_eq_false (by omega)
   have HX : Aside0 (agesOk l = false) := ⟨by unfold agesOk; rw [decide_eq_false (fun k => h6 k.2)]; rfl⟩
   rw [HX.out]
   clear hr h1 h6 HX
   go_enter Tryz.func49, Tryz.ntmps49
   go_wp2_with fail
   go_ret
   exact ⟨rfl, Below.refl _ _⟩
 ·have d1 : decide ((1 : Int) ≤ (l.length : Int)) = false := decide_eq_false (by omega)
  have HX : Aside0 (agesOk l = false) := ⟨by unfold agesOk; rw [decide_eq_false (fun k => h1 k.1)]; rfl⟩
  rw [HX.out]
  clear hr h1 HX
  go_enter Tryz.func49, Tryz.ntmps49
  go_wp2_with fail
  go_ret
  exact ⟨rfl, Below.refl _ _⟩
end Go.Proofs.YtaaifdclojkdmaaGreatDoor.MFr
namespace Go.Proofs.YtaaifdclojkdmaaGreatDoor.MFr
open Go.RowKit Go.Proofs.YtaaifdclojkdmaaGreatDoorW.PrintWords Go.Proofs.YtaaifdclojkdmaaGreatDoorW.PrintLast Go.Proofs.YtaaifdclojkdmaaGreatDoorW.PrintMore
attribute [local go_sem] mp_u32s mp_u32m mp_u8s mp_u8m max2_int min2_int max_two min_two max_three min_three max_four min_four
set_option linter.unusedVariables false
set_option linter.unusedSimpArgs false
def slices_Equal_int_int.l0 : Nat → List Int → List Int → Int → Int → Option (Bool)
 | 0, _, _, _, _ => none
 | k + 1, x0, x1, x12, x13 => if x13 < x12 then (if 0 ≤ x13 then (if x13 < (x0.length : Int) then (if x13 < (x1.length : Int) then (if (rd x0 x13) = (rd x1 x13) then (slices_Equal_int_int.l0 k x0 x1 x12 (wrap64 (x13 + 1))) else (some false)) else (none)) else (none)) else (none)) else (some true)
def slices_Equal_int_int.f (k : Nat) (l0 : List Int) (l1 : List Int) : Option (Bool) := if (l0.length : Int) = (l1.length : Int) then (slices_Equal_int_int.l0 k l0 l1 (l0.length : Int) 0) else (some false)
theorem slices_Equal_int_int.mono_l : ∀ k, (∀ y0 y1 y2 y3, LeO (slices_Equal_int_int.l0 k y0 y1 y2 y3) (slices_Equal_int_int.l0 (k + 1) y0 y1 y2 y3))
 | 0 => fun _ _ _ _ r h => by simp [slices_Equal_int_int.l0] at h
 | k + 1 => by
  have ih0 := slices_Equal_int_int.mono_l k
  ·intro y0 y1 y2 y3
   unfold slices_Equal_int_int.l0
   repeat' first
   | (with_reducible exact ih0 _ _ _ _)
   | (with_reducible exact LeO.refl _)
   | (with_reducible exact LeO.none _)
   | (with_reducible refine LeO.ite ?_ ?_)
   | (with_reducible refine LeO.bind ?_ (fun _ => ?_))
   | exact ih0 _ _ _ _
   | exact LeO.none _
   | refine LeO.ite ?_ ?_
   | refine LeO.bind ?_ (fun _ => ?_)
theorem slices_Equal_int_int.mono : ∀ a0 a1 k, LeO (slices_Equal_int_int.f k a0 a1) (slices_Equal_int_int.f (k + 1) a0 a1) := by
 intro a0 a1 k
 have ih0 := slices_Equal_int_int.mono_l k
 unfold slices_Equal_int_int.f
 repeat' first
   | (with_reducible exact ih0 _ _ _ _)
   | (with_reducible exact LeO.refl _)
   | (with_reducible exact LeO.none _)
   | (with_reducible refine LeO.ite ?_ ?_)
   | (with_reducible refine LeO.bind ?_ (fun _ => ?_))
   | exact ih0 _ _ _ _
   | exact LeO.none _
   | refine LeO.ite ?_ ?_
   | refine LeO.bind ?_ (fun _ => ?_)
set_option maxHeartbeats 8000000 in
set_option maxRecDepth 100000 in
theorem slices_Equal_int_int.calls (k : Nat) (A0 : Option Addr) (c0 : Nat) (l0 : List Int) (A1 : Option Addr) (c1 : Nat) (l1 : List Int) (r : Bool) (w : World) (hr0 : Kd.C (Kd.int .i64) w A0 l0.length l0) (hc0 : l0.length ≤ c0) (hr1 : Kd.C (Kd.int .i64) w A1 l1.length l1) (hc1 : l1.length ≤ c1) (h : slices_Equal_int_int.f k l0 l1 = some r) :
  Calls Tryz.prog 70 #[.slice A0 l0.length c0, .slice A1 l1.length c1] w fun e w' => e = .returned (.bool r) ∧ Drawn0 w w' := by
 have HR0 := Aside0.mk hr0
 have HC0 := Aside0.mk hc0
 clear hr0 hc0
 have HR1 := Aside0.mk hr1
 have HC1 := Aside0.mk hc1
 clear hr1 hc1
 have H : (if (l0.length : Int) = (l1.length : Int) then (slices_Equal_int_int.l0 k l0 l1 (l0.length : Int) 0) else (some false)) = some r := h
 clear h
 by_cases c3 : (l0.length : Int) = (l1.length : Int)
 ·rw [if_pos c3] at H
  have c3b0 : ((l0.length : Int) == (l1.length : Int)) = true := beq_iff_eq.mpr c3
  have c3b1 : ((l0.length : Int) != (l1.length : Int)) = false := bne_eq_false_iff_eq.mpr c3
  have c3b2 : (l0.length == l1.length) = true := by first | simpa using c3 | (simp at c3 ⊢; omega)
  clear c3
  have H' := Aside0.mk H
  clear H
  go_enter Tryz.func70, Tryz.ntmps70
  go_wp2
  repeat (go_quiet (fail); try go_wp2)
  go_loopg [13] k (fun kq v13 w' => ∃ (x13_1 : Int), v13 = .int .i64 x13_1 ∧ Aside0 (slices_Equal_int_int.l0 kq l0 l1 (l0.length : Int) x13_1 = some r) ∧ Aside0 (kq ≤ k) ∧ Drawn0 w w')
  case atStart => exact ⟨(0), (by first | rfl | (simp; done) | (simp [*]; done)), H', ⟨Nat.le_refl _⟩, by repeat (first | exact Drawn0.refl _ | apply Drawn0.step)⟩
  case round =>
   clear H'
   try clear c1
   try clear p2
   try clear c3
   try clear c3b0
   try clear c3b1
   try clear c3b2
   obtain ⟨x13_1, rfl, HA, HK1, ⟨m1, rfl⟩⟩ := hrel
   cases gk with
   | zero => exact absurd HA.out (by simp [slices_Equal_int_int.l0])
   | succ k1 =>
    have H := HA.out
    clear HA
    simp only [slices_Equal_int_int.l0] at H
    by_cases c4 : x13_1 < (l0.length : Int)
    ·rw [if_pos c4] at H
     have c4b0 : decide (x13_1 < (l0.length : Int)) = true := decide_eq_true c4
     clear c4
     by_cases c5 : 0 ≤ x13_1
     ·rw [if_pos c5] at H
      have c5b0 : decide (0 ≤ x13_1) = true := decide_eq_true c5
      clear c5
      by_cases c6 : x13_1 < (l0.length : Int)
      ·rw [if_pos c6] at H
       have c6b0 : decide (x13_1 < (l0.length : Int)) = true := decide_eq_true c6
       clear c6
       by_cases c7 : x13_1 < (l1.length : Int)
       ·rw [if_pos c7] at H
        have c7b0 : decide (x13_1 < (l1.length : Int)) = true := decide_eq_true c7
        clear c7
        by_cases c8 : (rd l0 x13_1) = (rd l1 x13_1)
        ·rw [if_pos c8] at H
         have c8b0 : ((rd l0 x13_1) == (rd l1 x13_1)) = true := beq_iff_eq.mpr c8
         have c8b1 : ((rd l0 x13_1) != (rd l1 x13_1)) = false := bne_eq_false_iff_eq.mpr c8
         clear c8
         have H' := Aside0.mk H
         clear H
         have p144 : 0 ≤ (x13_1 : Int) := of_decide_eq_true (by first | (with_reducible assumption) | assumption)
         have q144 : x13_1 < (l0.length : Int) := of_decide_eq_true (by first | (with_reducible assumption) | assumption)
         obtain ⟨ad144, e144, hx144_0⟩ := Kd.at_int HR0.out x13_1 p144 q144
         cases e144
         replace p144 := eq_true p144
         replace q144 := eq_true q144
         have p145 : 0 ≤ (x13_1 : Int) := of_decide_eq_true (by first | (with_reducible assumption) | assumption)
         have q145 : x13_1 < (l1.length : Int) := of_decide_eq_true (by first | (with_reducible assumption) | assumption)
         obtain ⟨ad145, e145, hx145_0⟩ := Kd.at_int HR1.out x13_1 p145 q145
         cases e145
         replace p145 := eq_true p145
         replace q145 := eq_true q145
         go_wp2
         repeat (go_quiet (fail); try go_wp2)
         go_roundg k1
         case measure => have := HK1.out; omega
         case rel => exact ⟨(wrap64 (x13_1 + 1)), (by first | rfl | (simp; done) | (simp [*]; done)), H', ⟨by have := HK1.out; omega⟩, by repeat (first | exact Drawn0.refl _ | apply Drawn0.step)⟩
        ·rw [if_neg c8] at H
         have c8b0 : ((rd l0 x13_1) == (rd l1 x13_1)) = false := beq_eq_false_iff_ne.mpr c8
         have c8b1 : ((rd l0 x13_1) != (rd l1 x13_1)) = true := bne_iff_ne.mpr c8
         obtain rfl := Option.some.inj H
         have p144 : 0 ≤ (x13_1 : Int) := of_decide_eq_true (by first | (with_reducible assumption) | assumption)
         have q144 : x13_1 < (l0.length : Int) := of_decide_eq_true (by first | (with_reducible assumption) | assumption)
         obtain ⟨ad144, e144, hx144_0⟩ := Kd.at_int HR0.out x13_1 p144 q144
         cases e144
         replace p144 := eq_true p144
         replace q144 := eq_true q144
         have p145 : 0 ≤ (x13_1 : Int) := of_decide_eq_true (by first | (with_reducible assumption) | assumption)
         have q145 : x13_1 < (l1.length : Int) := of_decide_eq_true (by first | (with_reducible assumption) | assumption)
         obtain ⟨ad145, e145, hx145_0⟩ := Kd.at_int HR1.out x13_1 p145 q145
         cases e145
         replace p145 := eq_true p145
         replace q145 := eq_true q145
         go_wp2
         repeat (go_quiet (fail); try go_wp2)
         go_ret
         exact ⟨by first | rfl | (simp; done) | (simp [*]; done), by repeat (first | exact Drawn0.refl _ | apply Drawn0.step)⟩
       ·rw [if_neg c7] at H
        exact absurd H (by simp)
      ·rw [if_neg c6] at H
       exact absurd H (by simp)
     ·rw [if_neg c5] at H
      exact absurd H (by simp)
    ·rw [if_neg c4] at H
     have c4b0 : decide (x13_1 < (l0.length : Int)) = false := decide_eq_false c4
     clear c4
     obtain rfl := Option.some.inj H
     go_wp2
     repeat (go_quiet (fail); try go_wp2)
     go_ret
     exact ⟨by first | rfl | (simp; done) | (simp [*]; done), by repeat (first | exact Drawn0.refl _ | apply Drawn0.step)⟩
 ·rw [if_neg c3] at H
  have c3b0 : ((l0.length : Int) == (l1.length : Int)) = false := beq_eq_false_iff_ne.mpr c3
  have c3b1 : ((l0.length : Int) != (l1.length : Int)) = true := bne_iff_ne.mpr c3
  have c3b2 : (l0.length == l1.length) = false := by first | simpa using c3 | (simp at c3 ⊢; omega)
  obtain rfl := Option.some.inj H
  go_enter Tryz.func70, Tryz.ntmps70
  go_wp2
  repeat (go_quiet (fail); try go_wp2)
  go_ret
  exact ⟨by first | rfl | (simp; done) | (simp [*]; done), by repeat (first | exact Drawn0.refl _ | apply Drawn0.step)⟩
end Go.Proofs.YtaaifdclojkdmaaGreatDoor.MFr
