/- Texts of this claim, laid together by a program (wip/e/merge2.py): HQd, HQk1. -/
import Derived.Test.YtaaifdclojkdmaaGreatDoorZFz5
import Derived.Test.YtaaifdclojkdmaaGreatDoorZFz11
import Derived.Test.YtaaifdclojkdmaaGreatDoorZFz13
set_option linter.unusedVariables false
set_option linter.unusedSimpArgs false
set_option maxRecDepth 100000
namespace Go.Proofs.YtaaifdclojkdmaaGreatDoor.MFr
namespace Dq
open Go.RowKit Go.Proofs.YtaaifdclojkdmaaGreatDoorW.PrintWords Go.Proofs.YtaaifdclojkdmaaGreatDoorW.PrintLast Go.Proofs.YtaaifdclojkdmaaGreatDoorW.PrintMore Go.Proofs.YtaaifdclojkdmaaGreatDoor.Wire Go.Proofs.YtaaifdclojkdmaaGreatDoor.Evl
variable {base g fb b2 : Nat} {A : Option Addr} {c : Nat} {x : List Int} {s s1 s2 : St}
def Out (w w' : World) (e : Ending) (f : Fr) (er ea : Int) : Prop :=
 ∃ A9 c9 A13 c13, e = .returned (.tuple #[.agg #[.int .i64 f.k, .int .i64 f.p, .int .i64 f.n, .int .i64 f.wt, .int .i64 f.msk, .int .i64 f.lk, .bool f.fl, .int .i64 f.cy, .int .i64 f.of_, .slice A9 f.ag.length c9, .int .i64 f.f1, .int .i64 f.f2, .int .i64 f.sq, .slice A13 f.bd.length c13], .int .i64 er, .int .i64 ea]) ∧ (Kd.int .i64).R 3 w' w.heap.size (fun _ => True) (.slice A9 f.ag.length c9) f.ag ∧ (Kd.int .u8).R 5 w' w.heap.size (fun _ => True) (.slice A13 f.bd.length c13) f.bd ∧ Below w.heap.size w w'
theorem Out.zero {w w' : World} {er ea : Int} {e : Ending} (he : e = .returned (.tuple #[.agg #[.int .i64 0, .int .i64 0, .int .i64 0, .int .i64 0, .int .i64 0, .int .i64 0, .bool false, .int .i64 0, .int .i64 0, .slice none 0 0, .int .i64 0, .int .i64 0, .int .i64 0, .slice none 0 0], .int .i64 er, .int .i64 ea])) (hb : Below w.heap.size w w') : Out w w' e Fr.zero er ea :=
 ⟨none, 0, none, 0, he, Kd.R_nil _ _ _ _ _, Kd.R_nil _ _ _ _ _, hb⟩
structure Rx (w W : World) (b2 g fb : Nat) (A : Option Addr) (c : Nat) (x : List Int) (s : St) (cs : Array Value) : Prop where
 below : Below w.heap.size w W
 zero : W.heap[b2]? = some (.cells #[.int .i64 0, .int .i64 0, .int .i64 0, .int .i64 0, .int .i64 0, .int .i64 0, .bool false, .int .i64 0, .int .i64 0, .slice none 0 0, .int .i64 0, .int .i64 0, .int .i64 0, .slice none 0 0] 26 (0, 0))
 ds : Ds W w.heap.size g A c x s
 fr : W.heap[fb]? = some (.cells cs 26 (0, 0))
 low : w.heap.size ≤ b2
 bg : b2 < g
 gf : g < fb
theorem Rx.call {w W W1 : World} {cs : Array Value} (H : Rx w W b2 g fb A c x s cs) (K : Da W W1 w.heap.size g A c x s2) : Rx w W1 b2 g fb A c x s2 cs := by
 have h1 := H.bg
 have h2 := H.gf
 exact ⟨H.below.trans K.below, K.keep.blk H.zero (by omega) (by simp), K.ds, K.keep.blk H.fr (by omega) (by simp), H.low, H.bg, H.gf⟩
theorem Rx.set {w W : World} {cs : Array Value} (H : Rx w W b2 g fb A c x s cs) (i : Nat) (u : Value) : Rx w (W.setCell ⟨fb, i, none⟩ u) b2 g fb A c x s (cs.setIfInBounds i u) := by
 have h0 := H.low
 have h1 := H.bg
 have h2 := H.gf
 exact ⟨H.below.setCell (by show w.heap.size ≤ fb; omega) _, blk_far H.zero (by show b2 ≠ fb; omega) _, ⟨⟨blk_far H.ds.rd.1 (by show g ≠ fb; omega) _, H.ds.rd.2⟩, Kd.R_far H.ds.row (fun k hk => by have : k < g := hk; show k ≠ fb; omega) _, H.ds.a0, H.ds.a1⟩, blk_set H.fr i u, H.low, H.bg, H.gf⟩
theorem Rx.drewN {w W : World} {cs : Array Value} (H : Rx w W b2 g fb A c x s cs) (n : Nat) : Rx w (W.drewN n) b2 g fb A c x s cs := H.call (Da.drewN H.ds n)
theorem Rx.lt {w W : World} {cs : Array Value} (H : Rx w W b2 g fb A c x s cs) : fb + 1 ≤ W.heap.size := blk_lt H.fr
theorem Rx.begin {w w1 : World} {wa : Nat} (HB : Below w.heap.size w w1) (HZ : w1.heap[b2]? = some (.cells #[.int .i64 0, .int .i64 0, .int .i64 0, .int .i64 0, .int .i64 0, .int .i64 0, .bool false, .int .i64 0, .int .i64 0, .slice none 0 0, .int .i64 0, .int .i64 0, .int .i64 0, .slice none 0 0] 26 (0, 0))) (lo : w.heap.size ≤ b2) (HO : Kd.R (Kd.int .u8) 5 w1 wa (fun _ => True) (.slice A x.length c) x) (hwa : w.heap.size ≤ wa) :
  Rx w ((w1.alloc (.cells #[.slice A x.length c, .int .i64 0, .bool false, .int .i64 0, .int .i64 0] 87)).alloc (.cells #[.int .i64 0, .int .i64 0, .int .i64 0, .int .i64 0, .int .i64 0, .int .i64 0, .bool false, .int .i64 0, .int .i64 0, .slice none 0 0, .int .i64 0, .int .i64 0, .int .i64 0, .slice none 0 0] 26)) b2 w1.heap.size (w1.heap.size + 1) A c x ⟨0, 0, 0⟩ #[.int .i64 0, .int .i64 0, .int .i64 0, .int .i64 0, .int .i64 0, .int .i64 0, .bool false, .int .i64 0, .int .i64 0, .slice none 0 0, .int .i64 0, .int .i64 0, .int .i64 0, .slice none 0 0] := by
 have kb1 := below_alloc (Below.refl w1.heap.size w1) (.cells #[.slice A x.length c, .int .i64 0, .bool false, .int .i64 0, .int .i64 0] 87)
 have hG := heap_alloc_new w1 (.cells #[.slice A x.length c, .int .i64 0, .bool false, .int .i64 0, .int .i64 0] 87)
 have hsz : (w1.alloc (.cells #[.slice A x.length c, .int .i64 0, .bool false, .int .i64 0, .int .i64 0] 87)).heap.size = w1.heap.size + 1 := by simp
 have kb2 := below_alloc (Below.refl (w1.alloc (.cells #[.slice A x.length c, .int .i64 0, .bool false, .int .i64 0, .int .i64 0] 87)).heap.size (w1.alloc (.cells #[.slice A x.length c, .int .i64 0, .bool false, .int .i64 0, .int .i64 0] 87))) (.cells #[.int .i64 0, .int .i64 0, .int .i64 0, .int .i64 0, .int .i64 0, .int .i64 0, .bool false, .int .i64 0, .int .i64 0, .slice none 0 0, .int .i64 0, .int .i64 0, .int .i64 0, .slice none 0 0] 26)
 have hF := heap_alloc_new (w1.alloc (.cells #[.slice A x.length c, .int .i64 0, .bool false, .int .i64 0, .int .i64 0] 87)) (.cells #[.int .i64 0, .int .i64 0, .int .i64 0, .int .i64 0, .int .i64 0, .int .i64 0, .bool false, .int .i64 0, .int .i64 0, .slice none 0 0, .int .i64 0, .int .i64 0, .int .i64 0, .slice none 0 0] 26)
 rw [hsz] at hF
 have hrow : Kd.R (Kd.int .u8) 5 w1 w.heap.size (fun k => k < w1.heap.size) (.slice A x.length c) x := Kd.R_lower (Kd.R_mono (Kd.R_bound HO) (fun k hk => hk.2.2.1)) hwa
 refine ⟨below_step (below_step HB kb1) kb2, (kb2.block b2 ?_).trans ((kb1.block b2 (blk_lt HZ)).trans HZ), ⟨⟨(kb2.block _ (blk_lt hG)).trans hG, HB.size⟩, Kd.R_below (Kd.R_below hrow kb1) kb2, by decide, by show (0 : Int) ≤ x.length; omega⟩, hF, lo, blk_lt HZ, Nat.lt_succ_self _⟩
 rw [hsz]
 have := blk_lt HZ
 omega
def outQ (x : List Int) (f : Fr) (s : St) : Fr × Int × Int :=
 if s.e = 0 then (if s.at_ < (x.length : Int) then (Fr.zero, 3, s.at_) else (f, 0, 0)) else (Fr.zero, s.e, s.ea)
theorem first_num {k0 : Int} (h : numR (cut x 0 1) = k0) (hk : 1 ≤ k0 ∧ k0 ≤ 5) (hx1 : 1 ≤ x.length) : numN x ⟨0, 0, 0⟩ 1 1 5 = k0 ∧ numS x ⟨0, 0, 0⟩ 1 1 5 = ⟨1, 0, 0⟩ := by
 have hb : beginS x ⟨0, 0, 0⟩ 1 = ⟨0, 0, 0⟩ := by unfold beginS; rw [if_pos rfl, if_neg (by show ¬ ((x.length : Int) - 0 < 1); omega)]
 have hs : numS x ⟨0, 0, 0⟩ 1 1 5 = ⟨1, 0, 0⟩ := by
  unfold numS
  rw [hb, if_pos rfl, if_pos (by show 1 ≤ numR (cut x 0 1) ∧ numR (cut x 0 1) ≤ 5; rw [h]; exact hk)]
  rfl
 refine ⟨?_, hs⟩
 unfold numN
 rw [hs, if_pos rfl]
 exact h
set_option maxHeartbeats 4000000 in
theorem read_short (A0 : Option Addr) (c0 : Nat) (l : List Int) (w : World) (hr : Kd.C (Kd.int .u8) w A0 l.length l) (hc : l.length ≤ c0) (h7 : l.length < 7) :
  Calls Tryz.prog 16 #[.slice A0 l.length c0] w fun e w' => Out w w' e Fr.zero 2 0 := by
 have hd : decide ((l.length : Int) < 7) = true := decide_eq_true (by omega)
 clear hr h7
 go_enter Tryz.func16, Tryz.ntmps16
 go_wp2
 refine bodyPost_ret (results_ctt rfl _ _ w.heap.size 26 #[.int .i64 0, .int .i64 0, .int .i64 0, .int .i64 0, .int .i64 0, .int .i64 0, .bool false, .int .i64 0, .int .i64 0, .slice none 0 0, .int .i64 0, .int .i64 0, .int .i64 0, .slice none 0 0] (0, 0) _ rfl (heap_alloc_new w _) Tryz.underlying26 rfl (by kernel_rfl)) rfl ?_
 exact Out.zero rfl (below_alloc (Below.refl _ _) _)
set_option maxHeartbeats 4000000 in
theorem read_sum (A0 : Option Addr) (c0 : Nat) (l : List Int) (w : World) (hr : Kd.C (Kd.int .u8) w A0 l.length l) (hc : l.length ≤ c0) (h7 : 7 ≤ l.length) (hl : l.length ≤ 1000000) (ko : Nat) (x : List Int) (hO : drumlineref1_Open.f ko l = some (x, false)) :
  Calls Tryz.prog 16 #[.slice A0 l.length c0] w fun e w' => Out w w' e Fr.zero 4 ((l.length : Int) - 4) := by
 have hw : wrap64 ((l.length : Int) - 4) = (l.length : Int) - 4 := by unfold wrap64; omega
 have HR := Aside0.mk hr
 have HC := Aside0.mk hc
 have HL := Aside0.mk h7
 have hd : decide ((l.length : Int) < 7) = false := decide_eq_false (by omega)
 clear hr hc h7
 go_enter Tryz.func16, Tryz.ntmps16
 go_wp2_with fail
 have HB := Aside0.mk (below_alloc (Below.refl w.heap.size w) (.cells #[.int .i64 0, .int .i64 0, .int .i64 0, .int .i64 0, .int .i64 0, .int .i64 0, .bool false, .int .i64 0, .int .i64 0, .slice none 0 0, .int .i64 0, .int .i64 0, .int .i64 0, .slice none 0 0] 26))
 have HZ : Aside0 ((w.alloc (.cells #[.int .i64 0, .int .i64 0, .int .i64 0, .int .i64 0, .int .i64 0, .int .i64 0, .bool false, .int .i64 0, .int .i64 0, .slice none 0 0, .int .i64 0, .int .i64 0, .int .i64 0, .slice none 0 0] 26)).heap[w.heap.size]? = some (.cells #[.int .i64 0, .int .i64 0, .int .i64 0, .int .i64 0, .int .i64 0, .int .i64 0, .bool false, .int .i64 0, .int .i64 0, .slice none 0 0, .int .i64 0, .int .i64 0, .int .i64 0, .slice none 0 0] 26 (0, 0))) := ⟨heap_alloc_new _ _⟩
 generalize w.alloc (.cells #[.int .i64 0, .int .i64 0, .int .i64 0, .int .i64 0, .int .i64 0, .int .i64 0, .bool false, .int .i64 0, .int .i64 0, .slice none 0 0, .int .i64 0, .int .i64 0, .int .i64 0, .slice none 0 0] 26) = wa at *
 obtain ⟨b2, hb2⟩ : ∃ b2, b2 = w.heap.size := ⟨_, rfl⟩
 rw [← hb2]
 rw [← hb2] at HZ
 have HB2 := Aside0.mk hb2
 clear hb2
 refine (drumlineref1_Open.calls ko A0 c0 l x false _ (Kd.C_below HR.out HB.out) HC.out hO).mono ?_
 rintro e w1 ⟨v, rfl, ho, hb⟩
 obtain ⟨A1, c1, rfl⟩ := Kd.R_slice ho
 have HO := Aside0.mk ho
 have HB1 := Aside0.mk (below_step HB.out hb)
 have HZ1 := Aside0.mk ((hb.block b2 (blk_lt HZ.out)).trans HZ.out)
 have HS1 := Aside0.mk (hb.size)
 clear ho hb hO
 obtain ⟨zc0, zc1, zc2, zc3, zc4, zc5, zc6, zc7, zc8, zc9, zc10, zc11, zc12, zc13⟩ := cellsK14 HZ1.out
 have zf0 := blk_frozen HZ1.out 0
 have zf1 := blk_frozen HZ1.out 1
 have zf2 := blk_frozen HZ1.out 2
 have zf3 := blk_frozen HZ1.out 3
 have zf4 := blk_frozen HZ1.out 4
 have zf5 := blk_frozen HZ1.out 5
 have zf6 := blk_frozen HZ1.out 6
 have zf7 := blk_frozen HZ1.out 7
 have zf8 := blk_frozen HZ1.out 8
 have zf9 := blk_frozen HZ1.out 9
 have zf10 := blk_frozen HZ1.out 10
 have zf11 := blk_frozen HZ1.out 11
 have zf12 := blk_frozen HZ1.out 12
 have zf13 := blk_frozen HZ1.out 13
 have zs0 : w1.setCell ⟨b2, 0, none⟩ (.int .i64 0) = w1 := setCell_same HZ1.out rfl
 have zs1 : w1.setCell ⟨b2, 1, none⟩ (.int .i64 0) = w1 := setCell_same HZ1.out rfl
 have zs2 : w1.setCell ⟨b2, 2, none⟩ (.int .i64 0) = w1 := setCell_same HZ1.out rfl
 have zs3 : w1.setCell ⟨b2, 3, none⟩ (.int .i64 0) = w1 := setCell_same HZ1.out rfl
 have zs4 : w1.setCell ⟨b2, 4, none⟩ (.int .i64 0) = w1 := setCell_same HZ1.out rfl
 have zs5 : w1.setCell ⟨b2, 5, none⟩ (.int .i64 0) = w1 := setCell_same HZ1.out rfl
 have zs6 : w1.setCell ⟨b2, 6, none⟩ (.bool false) = w1 := setCell_same HZ1.out rfl
 have zs7 : w1.setCell ⟨b2, 7, none⟩ (.int .i64 0) = w1 := setCell_same HZ1.out rfl
 have zs8 : w1.setCell ⟨b2, 8, none⟩ (.int .i64 0) = w1 := setCell_same HZ1.out rfl
 have zs9 : w1.setCell ⟨b2, 9, none⟩ (.slice none 0 0) = w1 := setCell_same HZ1.out rfl
 have zs10 : w1.setCell ⟨b2, 10, none⟩ (.int .i64 0) = w1 := setCell_same HZ1.out rfl
 have zs11 : w1.setCell ⟨b2, 11, none⟩ (.int .i64 0) = w1 := setCell_same HZ1.out rfl
 have zs12 : w1.setCell ⟨b2, 12, none⟩ (.int .i64 0) = w1 := setCell_same HZ1.out rfl
 have zs13 : w1.setCell ⟨b2, 13, none⟩ (.slice none 0 0) = w1 := setCell_same HZ1.out rfl
 go_wp2
 refine bodyPost_ret (results_ctt rfl _ _ b2 26 #[.int .i64 0, .int .i64 0, .int .i64 0, .int .i64 0, .int .i64 0, .int .i64 0, .bool false, .int .i64 0, .int .i64 0, .slice none 0 0, .int .i64 0, .int .i64 0, .int .i64 0, .slice none 0 0] (0, 0) _ rfl HZ1.out Tryz.underlying26 rfl (by kernel_rfl)) rfl ?_
 exact Out.zero rfl HB1.out
set_option maxHeartbeats 4000000 in
theorem read_kind (A0 : Option Addr) (c0 : Nat) (l : List Int) (w : World) (hr : Kd.C (Kd.int .u8) w A0 l.length l) (hc : l.length ≤ c0) (h7 : 7 ≤ l.length) (hl : l.length ≤ 1000000) (ko : Nat) (x : List Int) (hO : drumlineref1_Open.f ko l = some (x, true)) (k : Int) (hk : rd x 0 = k) (hx1 : 1 ≤ x.length) (hk5 : k < 1 ∨ 5 < k) :
  Calls Tryz.prog 16 #[.slice A0 l.length c0] w fun e w' => Out w w' e Fr.zero 5 0 := by
 by_cases hk1 : k < 1
 ·have hd1 : decide (k < 1) = true := decide_eq_true hk1
  have HR := Aside0.mk hr
  have HC := Aside0.mk hc
  have HL := Aside0.mk h7
  have hd : decide ((l.length : Int) < 7) = false := decide_eq_false (by omega)
  clear hr hc h7
  go_enter Tryz.func16, Tryz.ntmps16
  go_wp2_with fail
  have HB := Aside0.mk (below_alloc (Below.refl w.heap.size w) (.cells #[.int .i64 0, .int .i64 0, .int .i64 0, .int .i64 0, .int .i64 0, .int .i64 0, .bool false, .int .i64 0, .int .i64 0, .slice none 0 0, .int .i64 0, .int .i64 0, .int .i64 0, .slice none 0 0] 26))
  have HZ : Aside0 ((w.alloc (.cells #[.int .i64 0, .int .i64 0, .int .i64 0, .int .i64 0, .int .i64 0, .int .i64 0, .bool false, .int .i64 0, .int .i64 0, .slice none 0 0, .int .i64 0, .int .i64 0, .int .i64 0, .slice none 0 0] 26)).heap[w.heap.size]? = some (.cells #[.int .i64 0, .int .i64 0, .int .i64 0, .int .i64 0, .int .i64 0, .int .i64 0, .bool false, .int .i64 0, .int .i64 0, .slice none 0 0, .int .i64 0, .int .i64 0, .int .i64 0, .slice none 0 0] 26 (0, 0))) := ⟨heap_alloc_new _ _⟩
  generalize w.alloc (.cells #[.int .i64 0, .int .i64 0, .int .i64 0, .int .i64 0, .int .i64 0, .int .i64 0, .bool false, .int .i64 0, .int .i64 0, .slice none 0 0, .int .i64 0, .int .i64 0, .int .i64 0, .slice none 0 0] 26) = wa at *
  obtain ⟨b2, hb2⟩ : ∃ b2, b2 = w.heap.size := ⟨_, rfl⟩
  rw [← hb2]
  rw [← hb2] at HZ
  have HB2 := Aside0.mk hb2
  clear hb2
  refine (drumlineref1_Open.calls ko A0 c0 l x true _ (Kd.C_below HR.out HB.out) HC.out hO).mono ?_
  rintro e w1 ⟨v, rfl, ho, hb⟩
  obtain ⟨A1, c1, rfl⟩ := Kd.R_slice ho
  have HO := Aside0.mk ho
  have HB1 := Aside0.mk (below_step HB.out hb)
  have HZ1 := Aside0.mk ((hb.block b2 (blk_lt HZ.out)).trans HZ.out)
  have HS1 := Aside0.mk (hb.size)
  clear ho hb hO
  have h0x : (0 : Int) < x.length := by omega
  obtain ⟨ad, ea_, hx0⟩ := Kd.at_int (Kd.R_reads' HO.out).2.2 0 (by decide) h0x
  cases ea_
  rw [hk, show ad.add (0 : Int).toNat = ad by cases ad; rfl] at hx0
  have p0_ := eq_true h0x
  have p0c : (0 : Int) < (x.length : Int) := h0x
  obtain ⟨zc0, zc1, zc2, zc3, zc4, zc5, zc6, zc7, zc8, zc9, zc10, zc11, zc12, zc13⟩ := cellsK14 HZ1.out
  have zf0 := blk_frozen HZ1.out 0
  have zf1 := blk_frozen HZ1.out 1
  have zf2 := blk_frozen HZ1.out 2
  have zf3 := blk_frozen HZ1.out 3
  have zf4 := blk_frozen HZ1.out 4
  have zf5 := blk_frozen HZ1.out 5
  have zf6 := blk_frozen HZ1.out 6
  have zf7 := blk_frozen HZ1.out 7
  have zf8 := blk_frozen HZ1.out 8
  have zf9 := blk_frozen HZ1.out 9
  have zf10 := blk_frozen HZ1.out 10
  have zf11 := blk_frozen HZ1.out 11
  have zf12 := blk_frozen HZ1.out 12
  have zf13 := blk_frozen HZ1.out 13
  have zs0 : w1.setCell ⟨b2, 0, none⟩ (.int .i64 0) = w1 := setCell_same HZ1.out rfl
  have zs1 : w1.setCell ⟨b2, 1, none⟩ (.int .i64 0) = w1 := setCell_same HZ1.out rfl
  have zs2 : w1.setCell ⟨b2, 2, none⟩ (.int .i64 0) = w1 := setCell_same HZ1.out rfl
  have zs3 : w1.setCell ⟨b2, 3, none⟩ (.int .i64 0) = w1 := setCell_same HZ1.out rfl
  have zs4 : w1.setCell ⟨b2, 4, none⟩ (.int .i64 0) = w1 := setCell_same HZ1.out rfl
  have zs5 : w1.setCell ⟨b2, 5, none⟩ (.int .i64 0) = w1 := setCell_same HZ1.out rfl
  have zs6 : w1.setCell ⟨b2, 6, none⟩ (.bool false) = w1 := setCell_same HZ1.out rfl
  have zs7 : w1.setCell ⟨b2, 7, none⟩ (.int .i64 0) = w1 := setCell_same HZ1.out rfl
  have zs8 : w1.setCell ⟨b2, 8, none⟩ (.int .i64 0) = w1 := setCell_same HZ1.out rfl
  have zs9 : w1.setCell ⟨b2, 9, none⟩ (.slice none 0 0) = w1 := setCell_same HZ1.out rfl
  have zs10 : w1.setCell ⟨b2, 10, none⟩ (.int .i64 0) = w1 := setCell_same HZ1.out rfl
  have zs11 : w1.setCell ⟨b2, 11, none⟩ (.int .i64 0) = w1 := setCell_same HZ1.out rfl
  have zs12 : w1.setCell ⟨b2, 12, none⟩ (.int .i64 0) = w1 := setCell_same HZ1.out rfl
  have zs13 : w1.setCell ⟨b2, 13, none⟩ (.slice none 0 0) = w1 := setCell_same HZ1.out rfl
  go_wp2
  refine bodyPost_ret (results_ctt rfl _ _ b2 26 #[.int .i64 0, .int .i64 0, .int .i64 0, .int .i64 0, .int .i64 0, .int .i64 0, .bool false, .int .i64 0, .int .i64 0, .slice none 0 0, .int .i64 0, .int .i64 0, .int .i64 0, .slice none 0 0] (0, 0) _ rfl HZ1.out Tryz.underlying26 rfl (by kernel_rfl)) rfl ?_
  exact Out.zero rfl HB1.out
 ·have hd1 : decide (k < 1) = false := decide_eq_false hk1
  have hd2 : decide (5 < k) = true := decide_eq_true (by omega)
  have HR := Aside0.mk hr
  have HC := Aside0.mk hc
  have HL := Aside0.mk h7
  have hd : decide ((l.length : Int) < 7) = false := decide_eq_false (by omega)
  clear hr hc h7
  go_enter Tryz.func16, Tryz.ntmps16
  go_wp2_with fail
  have HB := Aside0.mk (below_alloc (Below.refl w.heap.size w) (.cells #[.int .i64 0, .int .i64 0, .int .i64 0, .int .i64 0, .int .i64 0, .int .i64 0, .bool false, .int .i64 0, .int .i64 0, .slice none 0 0, .int .i64 0, .int .i64 0, .int .i64 0, .slice none 0 0] 26))
  have HZ : Aside0 ((w.alloc (.cells #[.int .i64 0, .int .i64 0, .int .i64 0, .int .i64 0, .int .i64 0, .int .i64 0, .bool false, .int .i64 0, .int .i64 0, .slice none 0 0, .int .i64 0, .int .i64 0, .int .i64 0, .slice none 0 0] 26)).heap[w.heap.size]? = some (.cells #[.int .i64 0, .int .i64 0, .int .i64 0, .int .i64 0, .int .i64 0, .int .i64 0, .bool false, .int .i64 0, .int .i64 0, .slice none 0 0, .int .i64 0, .int .i64 0, .int .i64 0, .slice none 0 0] 26 (0, 0))) := ⟨heap_alloc_new _ _⟩
  generalize w.alloc (.cells #[.int .i64 0, .int .i64 0, .int .i64 0, .int .i64 0, .int .i64 0, .int .i64 0, .bool false, .int .i64 0, .int .i64 0, .slice none 0 0, .int .i64 0, .int .i64 0, .int .i64 0, .slice none 0 0] 26) = wa at *
  obtain ⟨b2, hb2⟩ : ∃ b2, b2 = w.heap.size := ⟨_, rfl⟩
  rw [← hb2]
  rw [← hb2] at HZ
  have HB2 := Aside0.mk hb2
  clear hb2
  refine (drumlineref1_Open.calls ko A0 c0 l x true _ (Kd.C_below HR.out HB.out) HC.out hO).mono ?_
  rintro e w1 ⟨v, rfl, ho, hb⟩
  obtain ⟨A1, c1, rfl⟩ := Kd.R_slice ho
  have HO := Aside0.mk ho
  have HB1 := Aside0.mk (below_step HB.out hb)
  have HZ1 := Aside0.mk ((hb.block b2 (blk_lt HZ.out)).trans HZ.out)
  have HS1 := Aside0.mk (hb.size)
  clear ho hb hO
  have h0x : (0 : Int) < x.length := by omega
  obtain ⟨ad, ea_, hx0⟩ := Kd.at_int (Kd.R_reads' HO.out).2.2 0 (by decide) h0x
  cases ea_
  rw [hk, show ad.add (0 : Int).toNat = ad by cases ad; rfl] at hx0
  have p0_ := eq_true h0x
  have p0c : (0 : Int) < (x.length : Int) := h0x
  obtain ⟨zc0, zc1, zc2, zc3, zc4, zc5, zc6, zc7, zc8, zc9, zc10, zc11, zc12, zc13⟩ := cellsK14 HZ1.out
  have zf0 := blk_frozen HZ1.out 0
  have zf1 := blk_frozen HZ1.out 1
  have zf2 := blk_frozen HZ1.out 2
  have zf3 := blk_frozen HZ1.out 3
  have zf4 := blk_frozen HZ1.out 4
  have zf5 := blk_frozen HZ1.out 5
  have zf6 := blk_frozen HZ1.out 6
  have zf7 := blk_frozen HZ1.out 7
  have zf8 := blk_frozen HZ1.out 8
  have zf9 := blk_frozen HZ1.out 9
  have zf10 := blk_frozen HZ1.out 10
  have zf11 := blk_frozen HZ1.out 11
  have zf12 := blk_frozen HZ1.out 12
  have zf13 := blk_frozen HZ1.out 13
  have zs0 : w1.setCell ⟨b2, 0, none⟩ (.int .i64 0) = w1 := setCell_same HZ1.out rfl
  have zs1 : w1.setCell ⟨b2, 1, none⟩ (.int .i64 0) = w1 := setCell_same HZ1.out rfl
  have zs2 : w1.setCell ⟨b2, 2, none⟩ (.int .i64 0) = w1 := setCell_same HZ1.out rfl
  have zs3 : w1.setCell ⟨b2, 3, none⟩ (.int .i64 0) = w1 := setCell_same HZ1.out rfl
  have zs4 : w1.setCell ⟨b2, 4, none⟩ (.int .i64 0) = w1 := setCell_same HZ1.out rfl
  have zs5 : w1.setCell ⟨b2, 5, none⟩ (.int .i64 0) = w1 := setCell_same HZ1.out rfl
  have zs6 : w1.setCell ⟨b2, 6, none⟩ (.bool false) = w1 := setCell_same HZ1.out rfl
  have zs7 : w1.setCell ⟨b2, 7, none⟩ (.int .i64 0) = w1 := setCell_same HZ1.out rfl
  have zs8 : w1.setCell ⟨b2, 8, none⟩ (.int .i64 0) = w1 := setCell_same HZ1.out rfl
  have zs9 : w1.setCell ⟨b2, 9, none⟩ (.slice none 0 0) = w1 := setCell_same HZ1.out rfl
  have zs10 : w1.setCell ⟨b2, 10, none⟩ (.int .i64 0) = w1 := setCell_same HZ1.out rfl
  have zs11 : w1.setCell ⟨b2, 11, none⟩ (.int .i64 0) = w1 := setCell_same HZ1.out rfl
  have zs12 : w1.setCell ⟨b2, 12, none⟩ (.int .i64 0) = w1 := setCell_same HZ1.out rfl
  have zs13 : w1.setCell ⟨b2, 13, none⟩ (.slice none 0 0) = w1 := setCell_same HZ1.out rfl
  go_wp2
  refine bodyPost_ret (results_ctt rfl _ _ b2 26 #[.int .i64 0, .int .i64 0, .int .i64 0, .int .i64 0, .int .i64 0, .int .i64 0, .bool false, .int .i64 0, .int .i64 0, .slice none 0 0, .int .i64 0, .int .i64 0, .int .i64 0, .slice none 0 0] (0, 0) _ rfl HZ1.out Tryz.underlying26 rfl (by kernel_rfl)) rfl ?_
  exact Out.zero rfl HB1.out
end Dq
end Go.Proofs.YtaaifdclojkdmaaGreatDoor.MFr
set_option linter.unusedVariables false
set_option linter.unusedSimpArgs false
set_option maxRecDepth 100000
namespace Go.Proofs.YtaaifdclojkdmaaGreatDoor.MFr
namespace Dq
open Go.RowKit Go.Proofs.YtaaifdclojkdmaaGreatDoorW.PrintWords Go.Proofs.YtaaifdclojkdmaaGreatDoorW.PrintLast Go.Proofs.YtaaifdclojkdmaaGreatDoorW.PrintMore Go.Proofs.YtaaifdclojkdmaaGreatDoor.Wire Go.Proofs.YtaaifdclojkdmaaGreatDoor.Evl
set_option maxHeartbeats 8000000 in
theorem read1 (A0 : Option Addr) (c0 : Nat) (l : List Int) (w : World) (hr : Kd.C (Kd.int .u8) w A0 l.length l) (hc : l.length ≤ c0) (h7 : 7 ≤ l.length) (hl : l.length ≤ 1000000) (ko : Nat) {x : List Int} (hO : drumlineref1_Open.f ko l = some (x, true)) (hk : rd x 0 = 1) (hx : numR (cut x 0 1) = 1) (hx1 : 1 ≤ x.length) (hxl : x.length ≤ 1000000) (hxb : Bys x)
  {x2 x3 x4 : Int} {s2_ s3_ s4_ : St} (q2_0 : numN x ⟨1, 0, 0⟩ 1 0 5 = x2) (q2_1 : numS x ⟨1, 0, 0⟩ 1 0 5 = s2_) (q3_0 : numN x s2_ 1 0 11 = x3) (q3_1 : numS x s2_ 1 0 11 = s3_) (q4_0 : numN x s3_ 2 0 60000 = x4) (q4_1 : numS x s3_ 2 0 60000 = s4_) :
  Calls Tryz.prog 16 #[.slice A0 l.length c0] w fun e w' => Out w w' e (outQ x (⟨ 1,  x2,  x3,  x4, 0, 0, false, 0, 0, [], 0, 0, 0, []⟩ : Fr) s4_).1 (outQ x (⟨ 1,  x2,  x3,  x4, 0, 0, false, 0, 0, [], 0, 0, 0, []⟩ : Fr) s4_).2.1 (outQ x (⟨ 1,  x2,  x3,  x4, 0, 0, false, 0, 0, [], 0, 0, 0, []⟩ : Fr) s4_).2.2 := by
 have HR := Aside0.mk hr
 have HC := Aside0.mk hc
 have HL := Aside0.mk h7
 have hd : decide ((l.length : Int) < 7) = false := decide_eq_false (by omega)
 clear hr hc h7
 go_enter Tryz.func16, Tryz.ntmps16
 go_wp2_with fail
 have HB := Aside0.mk (below_alloc (Below.refl w.heap.size w) (.cells #[.int .i64 0, .int .i64 0, .int .i64 0, .int .i64 0, .int .i64 0, .int .i64 0, .bool false, .int .i64 0, .int .i64 0, .slice none 0 0, .int .i64 0, .int .i64 0, .int .i64 0, .slice none 0 0] 26))
 have HZ : Aside0 ((w.alloc (.cells #[.int .i64 0, .int .i64 0, .int .i64 0, .int .i64 0, .int .i64 0, .int .i64 0, .bool false, .int .i64 0, .int .i64 0, .slice none 0 0, .int .i64 0, .int .i64 0, .int .i64 0, .slice none 0 0] 26)).heap[w.heap.size]? = some (.cells #[.int .i64 0, .int .i64 0, .int .i64 0, .int .i64 0, .int .i64 0, .int .i64 0, .bool false, .int .i64 0, .int .i64 0, .slice none 0 0, .int .i64 0, .int .i64 0, .int .i64 0, .slice none 0 0] 26 (0, 0))) := ⟨heap_alloc_new _ _⟩
 generalize w.alloc (.cells #[.int .i64 0, .int .i64 0, .int .i64 0, .int .i64 0, .int .i64 0, .int .i64 0, .bool false, .int .i64 0, .int .i64 0, .slice none 0 0, .int .i64 0, .int .i64 0, .int .i64 0, .slice none 0 0] 26) = wa at *
 obtain ⟨b2, hb2⟩ : ∃ b2, b2 = w.heap.size := ⟨_, rfl⟩
 rw [← hb2]
 rw [← hb2] at HZ
 have HB2 := Aside0.mk hb2
 clear hb2
 refine (drumlineref1_Open.calls ko A0 c0 l x true _ (Kd.C_below HR.out HB.out) HC.out hO).mono ?_
 rintro e w1 ⟨v, rfl, ho, hb⟩
 obtain ⟨A1, c1, rfl⟩ := Kd.R_slice ho
 have HO := Aside0.mk ho
 have HB1 := Aside0.mk (below_step HB.out hb)
 have HZ1 := Aside0.mk ((hb.block b2 (blk_lt HZ.out)).trans HZ.out)
 have HS1 := Aside0.mk (hb.size)
 clear ho hb hO
 have h0x : (0 : Int) < x.length := by omega
 obtain ⟨ad, ea_, hx0⟩ := Kd.at_int (Kd.R_reads' HO.out).2.2 0 (by decide) h0x
 cases ea_
 rw [hk, show ad.add (0 : Int).toNat = ad by cases ad; rfl] at hx0
 have p0_ := eq_true h0x
 have p0c : (0 : Int) < (x.length : Int) := h0x
 go_wp2_with fail
 have HX0 := Aside0.mk (Rx.begin HB1.out HZ1.out (by have := HB2.out; omega) HO.out HB.out.size)
 have W_ := number_walk 1 1 5 _ HX0.out.ds hxl hxb (by decide) (by decide)
 rw [(first_num hx (by decide) hx1).1, (first_num hx (by decide) hx1).2] at W_
 refine W_.mono ?_
 rintro e w2 ⟨rfl, hF⟩
 have HXa := Aside0.mk (HX0.out.call hF)
 clear hF W_ HX0 hx0
 generalize w1.heap.size + 1 = fb at *
 generalize w1.heap.size = g at *
 have y0 := (blk_cell HXa.out.fr 0).trans rfl
 have z0 := blk_frozen HXa.out.fr 0
 go_wp2_with fail
 have HX1 : Aside0 (Rx w _ b2 g fb _ _ x ⟨1, 0, 0⟩ #[.int .i64 1, .int .i64 0, .int .i64 0, .int .i64 0, .int .i64 0, .int .i64 0, .bool false, .int .i64 0, .int .i64 0, .slice none 0 0, .int .i64 0, .int .i64 0, .int .i64 0, .slice none 0 0]) := Aside0.mk (HXa.out.set 0 (.int .i64 1))
 clear y0 z0 HXa
 have W_ := number_walk 1 0 5 _ HX1.out.ds hxl hxb (by decide) (by decide)
 rw [q2_0, q2_1] at W_
 refine W_.mono ?_
 rintro e w3 ⟨rfl, hF⟩
 have HXa := Aside0.mk (HX1.out.call hF)
 clear hF W_
 have y1 := (blk_cell HXa.out.fr 1).trans rfl
 have z1 := blk_frozen HXa.out.fr 1
 go_wp2_with fail
 have HX2 : Aside0 (Rx w _ b2 g fb _ _ x s2_ #[.int .i64 1, .int .i64 x2, .int .i64 0, .int .i64 0, .int .i64 0, .int .i64 0, .bool false, .int .i64 0, .int .i64 0, .slice none 0 0, .int .i64 0, .int .i64 0, .int .i64 0, .slice none 0 0]) := Aside0.mk (HXa.out.set 1 (.int .i64 x2))
 clear y1 z1 HXa
 have W_ := number_walk 1 0 11 _ HX2.out.ds hxl hxb (by decide) (by decide)
 rw [q3_0, q3_1] at W_
 refine W_.mono ?_
 rintro e w4 ⟨rfl, hF⟩
 have HXa := Aside0.mk (HX2.out.call hF)
 clear hF W_
 have y2 := (blk_cell HXa.out.fr 2).trans rfl
 have z2 := blk_frozen HXa.out.fr 2
 have y0 := (blk_cell HXa.out.fr 0).trans rfl
 go_wp2_with fail
 have HX3 : Aside0 (Rx w _ b2 g fb _ _ x s3_ #[.int .i64 1, .int .i64 x2, .int .i64 x3, .int .i64 0, .int .i64 0, .int .i64 0, .bool false, .int .i64 0, .int .i64 0, .slice none 0 0, .int .i64 0, .int .i64 0, .int .i64 0, .slice none 0 0]) := Aside0.mk (HXa.out.set 2 (.int .i64 x3))
 clear y2 z2 y0 HXa
 have W_ := number_walk 2 0 60000 _ HX3.out.ds hxl hxb (by decide) (by decide)
 rw [q4_0, q4_1] at W_
 refine W_.mono ?_
 rintro e w5 ⟨rfl, hF⟩
 have HXa := Aside0.mk (HX3.out.call hF)
 clear hF W_
 have y3 := (blk_cell HXa.out.fr 3).trans rfl
 have z3 := blk_frozen HXa.out.fr 3
 go_upto_region 34 with fail
 have HX4 : Aside0 (Rx w _ b2 g fb _ _ x s4_ #[.int .i64 1, .int .i64 x2, .int .i64 x3, .int .i64 x4, .int .i64 0, .int .i64 0, .bool false, .int .i64 0, .int .i64 0, .slice none 0 0, .int .i64 0, .int .i64 0, .int .i64 0, .slice none 0 0]) := Aside0.mk (HXa.out.set 3 (.int .i64 x4))
 clear y3 z3 HXa
 clear HL HC HR HB HZ HB1 HZ1 HO hd h0x p0_ p0c
 generalize w5.setCell ⟨fb, 3, none⟩ (.int .i64 x4) = W at *
 obtain ⟨sa, se, sea⟩ := s4_
 by_cases h0 : se = 0
 ·subst h0
  by_cases h1 : sa < (x.length : Int)
  ·have hd : decide (sa < (x.length : Int)) = true := decide_eq_true h1
   have HQ : Aside0 (outQ x (⟨ 1,  x2,  x3,  x4, 0, 0, false, 0, 0, [], 0, 0, 0, []⟩ : Fr) ⟨sa, 0, sea⟩ = (Fr.zero, 3, sa)) := ⟨by unfold outQ; rw [if_pos rfl, if_pos h1]⟩
   obtain ⟨c0, c1, c3⟩ := HX4.out.ds.cells
   have F3 := blk_frozen HX4.out.ds.rd.1 3
   go_upto_region 36 with fail
   have HY := Aside0.mk (HX4.out.call (HX4.out.ds.putE 3))
   clear c0 c1 c3 F3
   generalize W.setCell ⟨g, 3, none⟩ (.int .i64 3) = W1 at *
   obtain ⟨c0, c1, c3⟩ := HY.out.ds.cells
   have c4 := HY.out.ds.cell4
   have F4 := blk_frozen HY.out.ds.rd.1 4
   go_upto_region 37 with fail
   have HV := Aside0.mk (HY.out.call (HY.out.ds.putA sa))
   clear c0 c1 c3 c4 F4
   generalize W1.setCell ⟨g, 4, none⟩ (.int .i64 sa) = W2 at *
   obtain ⟨c0, c1, c3⟩ := HV.out.ds.cells
   have c4 := HV.out.ds.cell4
   have zc0 : W2.cell? ⟨b2, 0, none⟩ = some (.int .i64 0) := (blk_cell HV.out.zero 0).trans rfl
   have zc1 : W2.cell? ⟨b2, 1, none⟩ = some (.int .i64 0) := (blk_cell HV.out.zero 1).trans rfl
   have zc2 : W2.cell? ⟨b2, 2, none⟩ = some (.int .i64 0) := (blk_cell HV.out.zero 2).trans rfl
   have zc3 : W2.cell? ⟨b2, 3, none⟩ = some (.int .i64 0) := (blk_cell HV.out.zero 3).trans rfl
   have zc4 : W2.cell? ⟨b2, 4, none⟩ = some (.int .i64 0) := (blk_cell HV.out.zero 4).trans rfl
   have zc5 : W2.cell? ⟨b2, 5, none⟩ = some (.int .i64 0) := (blk_cell HV.out.zero 5).trans rfl
   have zc6 : W2.cell? ⟨b2, 6, none⟩ = some (.bool false) := (blk_cell HV.out.zero 6).trans rfl
   have zc7 : W2.cell? ⟨b2, 7, none⟩ = some (.int .i64 0) := (blk_cell HV.out.zero 7).trans rfl
   have zc8 : W2.cell? ⟨b2, 8, none⟩ = some (.int .i64 0) := (blk_cell HV.out.zero 8).trans rfl
   have zc9 : W2.cell? ⟨b2, 9, none⟩ = some (.slice none 0 0) := (blk_cell HV.out.zero 9).trans rfl
   have zc10 : W2.cell? ⟨b2, 10, none⟩ = some (.int .i64 0) := (blk_cell HV.out.zero 10).trans rfl
   have zc11 : W2.cell? ⟨b2, 11, none⟩ = some (.int .i64 0) := (blk_cell HV.out.zero 11).trans rfl
   have zc12 : W2.cell? ⟨b2, 12, none⟩ = some (.int .i64 0) := (blk_cell HV.out.zero 12).trans rfl
   have zc13 : W2.cell? ⟨b2, 13, none⟩ = some (.slice none 0 0) := (blk_cell HV.out.zero 13).trans rfl
   have zf0 := blk_frozen HV.out.zero 0
   have zf1 := blk_frozen HV.out.zero 1
   have zf2 := blk_frozen HV.out.zero 2
   have zf3 := blk_frozen HV.out.zero 3
   have zf4 := blk_frozen HV.out.zero 4
   have zf5 := blk_frozen HV.out.zero 5
   have zf6 := blk_frozen HV.out.zero 6
   have zf7 := blk_frozen HV.out.zero 7
   have zf8 := blk_frozen HV.out.zero 8
   have zf9 := blk_frozen HV.out.zero 9
   have zf10 := blk_frozen HV.out.zero 10
   have zf11 := blk_frozen HV.out.zero 11
   have zf12 := blk_frozen HV.out.zero 12
   have zf13 := blk_frozen HV.out.zero 13
   have zs0 : W2.setCell ⟨b2, 0, none⟩ (.int .i64 0) = W2 := setCell_same HV.out.zero rfl
   have zs1 : W2.setCell ⟨b2, 1, none⟩ (.int .i64 0) = W2 := setCell_same HV.out.zero rfl
   have zs2 : W2.setCell ⟨b2, 2, none⟩ (.int .i64 0) = W2 := setCell_same HV.out.zero rfl
   have zs3 : W2.setCell ⟨b2, 3, none⟩ (.int .i64 0) = W2 := setCell_same HV.out.zero rfl
   have zs4 : W2.setCell ⟨b2, 4, none⟩ (.int .i64 0) = W2 := setCell_same HV.out.zero rfl
   have zs5 : W2.setCell ⟨b2, 5, none⟩ (.int .i64 0) = W2 := setCell_same HV.out.zero rfl
   have zs6 : W2.setCell ⟨b2, 6, none⟩ (.bool false) = W2 := setCell_same HV.out.zero rfl
   have zs7 : W2.setCell ⟨b2, 7, none⟩ (.int .i64 0) = W2 := setCell_same HV.out.zero rfl
   have zs8 : W2.setCell ⟨b2, 8, none⟩ (.int .i64 0) = W2 := setCell_same HV.out.zero rfl
   have zs9 : W2.setCell ⟨b2, 9, none⟩ (.slice none 0 0) = W2 := setCell_same HV.out.zero rfl
   have zs10 : W2.setCell ⟨b2, 10, none⟩ (.int .i64 0) = W2 := setCell_same HV.out.zero rfl
   have zs11 : W2.setCell ⟨b2, 11, none⟩ (.int .i64 0) = W2 := setCell_same HV.out.zero rfl
   have zs12 : W2.setCell ⟨b2, 12, none⟩ (.int .i64 0) = W2 := setCell_same HV.out.zero rfl
   have zs13 : W2.setCell ⟨b2, 13, none⟩ (.slice none 0 0) = W2 := setCell_same HV.out.zero rfl
   go_wp2_with fail
   go_region
   go_wp2_with fail
   refine bodyPost_ret (results_ctt rfl _ _ b2 26 #[.int .i64 0, .int .i64 0, .int .i64 0, .int .i64 0, .int .i64 0, .int .i64 0, .bool false, .int .i64 0, .int .i64 0, .slice none 0 0, .int .i64 0, .int .i64 0, .int .i64 0, .slice none 0 0] (0, 0) _ rfl HV.out.zero Tryz.underlying26 rfl (by kernel_rfl)) rfl ?_
   rw [HQ.out]
   exact Out.zero rfl (below_drew1 HV.out.below)
  ·have hd : decide (sa < (x.length : Int)) = false := decide_eq_false h1
   have HQ : Aside0 (outQ x (⟨ 1,  x2,  x3,  x4, 0, 0, false, 0, 0, [], 0, 0, 0, []⟩ : Fr) ⟨sa, 0, sea⟩ = ((⟨ 1,  x2,  x3,  x4, 0, 0, false, 0, 0, [], 0, 0, 0, []⟩ : Fr), 0, 0)) := ⟨by unfold outQ; rw [if_pos rfl, if_neg h1]⟩
   obtain ⟨c0, c1, c3⟩ := HX4.out.ds.cells
   have yc0 : W.cell? ⟨fb, 0, none⟩ = some (.int .i64 1) := (blk_cell HX4.out.fr 0).trans rfl
   have yc1 : W.cell? ⟨fb, 1, none⟩ = some (.int .i64 x2) := (blk_cell HX4.out.fr 1).trans rfl
   have yc2 : W.cell? ⟨fb, 2, none⟩ = some (.int .i64 x3) := (blk_cell HX4.out.fr 2).trans rfl
   have yc3 : W.cell? ⟨fb, 3, none⟩ = some (.int .i64 x4) := (blk_cell HX4.out.fr 3).trans rfl
   have yc4 : W.cell? ⟨fb, 4, none⟩ = some (.int .i64 0) := (blk_cell HX4.out.fr 4).trans rfl
   have yc5 : W.cell? ⟨fb, 5, none⟩ = some (.int .i64 0) := (blk_cell HX4.out.fr 5).trans rfl
   have yc6 : W.cell? ⟨fb, 6, none⟩ = some (.bool false) := (blk_cell HX4.out.fr 6).trans rfl
   have yc7 : W.cell? ⟨fb, 7, none⟩ = some (.int .i64 0) := (blk_cell HX4.out.fr 7).trans rfl
   have yc8 : W.cell? ⟨fb, 8, none⟩ = some (.int .i64 0) := (blk_cell HX4.out.fr 8).trans rfl
   have yc9 : W.cell? ⟨fb, 9, none⟩ = some (.slice none 0 0) := (blk_cell HX4.out.fr 9).trans rfl
   have yc10 : W.cell? ⟨fb, 10, none⟩ = some (.int .i64 0) := (blk_cell HX4.out.fr 10).trans rfl
   have yc11 : W.cell? ⟨fb, 11, none⟩ = some (.int .i64 0) := (blk_cell HX4.out.fr 11).trans rfl
   have yc12 : W.cell? ⟨fb, 12, none⟩ = some (.int .i64 0) := (blk_cell HX4.out.fr 12).trans rfl
   have yc13 : W.cell? ⟨fb, 13, none⟩ = some (.slice none 0 0) := (blk_cell HX4.out.fr 13).trans rfl
   have zc0 : W.cell? ⟨b2, 0, none⟩ = some (.int .i64 0) := (blk_cell HX4.out.zero 0).trans rfl
   have zc1 : W.cell? ⟨b2, 1, none⟩ = some (.int .i64 0) := (blk_cell HX4.out.zero 1).trans rfl
   have zc2 : W.cell? ⟨b2, 2, none⟩ = some (.int .i64 0) := (blk_cell HX4.out.zero 2).trans rfl
   have zc3 : W.cell? ⟨b2, 3, none⟩ = some (.int .i64 0) := (blk_cell HX4.out.zero 3).trans rfl
   have zc4 : W.cell? ⟨b2, 4, none⟩ = some (.int .i64 0) := (blk_cell HX4.out.zero 4).trans rfl
   have zc5 : W.cell? ⟨b2, 5, none⟩ = some (.int .i64 0) := (blk_cell HX4.out.zero 5).trans rfl
   have zc6 : W.cell? ⟨b2, 6, none⟩ = some (.bool false) := (blk_cell HX4.out.zero 6).trans rfl
   have zc7 : W.cell? ⟨b2, 7, none⟩ = some (.int .i64 0) := (blk_cell HX4.out.zero 7).trans rfl
   have zc8 : W.cell? ⟨b2, 8, none⟩ = some (.int .i64 0) := (blk_cell HX4.out.zero 8).trans rfl
   have zc9 : W.cell? ⟨b2, 9, none⟩ = some (.slice none 0 0) := (blk_cell HX4.out.zero 9).trans rfl
   have zc10 : W.cell? ⟨b2, 10, none⟩ = some (.int .i64 0) := (blk_cell HX4.out.zero 10).trans rfl
   have zc11 : W.cell? ⟨b2, 11, none⟩ = some (.int .i64 0) := (blk_cell HX4.out.zero 11).trans rfl
   have zc12 : W.cell? ⟨b2, 12, none⟩ = some (.int .i64 0) := (blk_cell HX4.out.zero 12).trans rfl
   have zc13 : W.cell? ⟨b2, 13, none⟩ = some (.slice none 0 0) := (blk_cell HX4.out.zero 13).trans rfl
   have zf0 := blk_frozen HX4.out.zero 0
   have zf1 := blk_frozen HX4.out.zero 1
   have zf2 := blk_frozen HX4.out.zero 2
   have zf3 := blk_frozen HX4.out.zero 3
   have zf4 := blk_frozen HX4.out.zero 4
   have zf5 := blk_frozen HX4.out.zero 5
   have zf6 := blk_frozen HX4.out.zero 6
   have zf7 := blk_frozen HX4.out.zero 7
   have zf8 := blk_frozen HX4.out.zero 8
   have zf9 := blk_frozen HX4.out.zero 9
   have zf10 := blk_frozen HX4.out.zero 10
   have zf11 := blk_frozen HX4.out.zero 11
   have zf12 := blk_frozen HX4.out.zero 12
   have zf13 := blk_frozen HX4.out.zero 13
   go_wp2_with fail
   have hbb : ∀ q, fb + 1 ≤ q → q ≠ b2 := fun q hq => by have := HX4.out.gf; have := HX4.out.bg; omega
   have hmm : w.heap.size ≤ fb + 1 := by have := HX4.out.gf; have := HX4.out.bg; have := HX4.out.low; omega
   have HBF : Below w.heap.size w ((((((((((((((W.setCell ⟨b2, 0, none⟩ (.int .i64 1)).setCell ⟨b2, 1, none⟩ (.int .i64 x2)).setCell ⟨b2, 2, none⟩ (.int .i64 x3)).setCell ⟨b2, 3, none⟩ (.int .i64 x4)).setCell ⟨b2, 4, none⟩ (.int .i64 0)).setCell ⟨b2, 5, none⟩ (.int .i64 0)).setCell ⟨b2, 6, none⟩ (.bool false)).setCell ⟨b2, 7, none⟩ (.int .i64 0)).setCell ⟨b2, 8, none⟩ (.int .i64 0)).setCell ⟨b2, 9, none⟩ (.slice none 0 0)).setCell ⟨b2, 10, none⟩ (.int .i64 0)).setCell ⟨b2, 11, none⟩ (.int .i64 0)).setCell ⟨b2, 12, none⟩ (.int .i64 0)).setCell ⟨b2, 13, none⟩ (.slice none 0 0)) := below_set14 HX4.out.below HX4.out.low _ _ _ _ _ _ _ _ _ _ _ _ _ _
   have HBK : ((((((((((((((W.setCell ⟨b2, 0, none⟩ (.int .i64 1)).setCell ⟨b2, 1, none⟩ (.int .i64 x2)).setCell ⟨b2, 2, none⟩ (.int .i64 x3)).setCell ⟨b2, 3, none⟩ (.int .i64 x4)).setCell ⟨b2, 4, none⟩ (.int .i64 0)).setCell ⟨b2, 5, none⟩ (.int .i64 0)).setCell ⟨b2, 6, none⟩ (.bool false)).setCell ⟨b2, 7, none⟩ (.int .i64 0)).setCell ⟨b2, 8, none⟩ (.int .i64 0)).setCell ⟨b2, 9, none⟩ (.slice none 0 0)).setCell ⟨b2, 10, none⟩ (.int .i64 0)).setCell ⟨b2, 11, none⟩ (.int .i64 0)).setCell ⟨b2, 12, none⟩ (.int .i64 0)).setCell ⟨b2, 13, none⟩ (.slice none 0 0)).heap[b2]? = some (.cells #[.int .i64 1, .int .i64 x2, .int .i64 x3, .int .i64 x4, .int .i64 0, .int .i64 0, .bool false, .int .i64 0, .int .i64 0, .slice none 0 0, .int .i64 0, .int .i64 0, .int .i64 0, .slice none 0 0] 26 (0, 0)) := blk_set14 HX4.out.zero _ _ _ _ _ _ _ _ _ _ _ _ _ _
   generalize ((((((((((((((W.setCell ⟨b2, 0, none⟩ (.int .i64 1)).setCell ⟨b2, 1, none⟩ (.int .i64 x2)).setCell ⟨b2, 2, none⟩ (.int .i64 x3)).setCell ⟨b2, 3, none⟩ (.int .i64 x4)).setCell ⟨b2, 4, none⟩ (.int .i64 0)).setCell ⟨b2, 5, none⟩ (.int .i64 0)).setCell ⟨b2, 6, none⟩ (.bool false)).setCell ⟨b2, 7, none⟩ (.int .i64 0)).setCell ⟨b2, 8, none⟩ (.int .i64 0)).setCell ⟨b2, 9, none⟩ (.slice none 0 0)).setCell ⟨b2, 10, none⟩ (.int .i64 0)).setCell ⟨b2, 11, none⟩ (.int .i64 0)).setCell ⟨b2, 12, none⟩ (.int .i64 0)).setCell ⟨b2, 13, none⟩ (.slice none 0 0)) = wz at HBF HBK ⊢
   refine bodyPost_ret (results_ctt rfl _ _ b2 26 #[.int .i64 1, .int .i64 x2, .int .i64 x3, .int .i64 x4, .int .i64 0, .int .i64 0, .bool false, .int .i64 0, .int .i64 0, .slice none 0 0, .int .i64 0, .int .i64 0, .int .i64 0, .slice none 0 0] (0, 0) _ rfl HBK Tryz.underlying26 rfl (by kernel_rfl)) rfl ?_
   rw [HQ.out]
   exact ⟨none, 0, none, 0, rfl, Kd.R_nil _ _ _ _ _, Kd.R_nil _ _ _ _ _, HBF⟩
 ·have hb0 : (se == 0) = false := beq_eq_false_iff_ne.mpr h0
  have hb1 : (se != 0) = true := bne_iff_ne.mpr h0
  have HQ : Aside0 (outQ x (⟨ 1,  x2,  x3,  x4, 0, 0, false, 0, 0, [], 0, 0, 0, []⟩ : Fr) ⟨sa, se, sea⟩ = (Fr.zero, se, sea)) := ⟨by unfold outQ; rw [if_neg h0]⟩
  clear h0
  obtain ⟨c0, c1, c3⟩ := HX4.out.ds.cells
  have c4 := HX4.out.ds.cell4
  have zc0 : W.cell? ⟨b2, 0, none⟩ = some (.int .i64 0) := (blk_cell HX4.out.zero 0).trans rfl
  have zc1 : W.cell? ⟨b2, 1, none⟩ = some (.int .i64 0) := (blk_cell HX4.out.zero 1).trans rfl
  have zc2 : W.cell? ⟨b2, 2, none⟩ = some (.int .i64 0) := (blk_cell HX4.out.zero 2).trans rfl
  have zc3 : W.cell? ⟨b2, 3, none⟩ = some (.int .i64 0) := (blk_cell HX4.out.zero 3).trans rfl
  have zc4 : W.cell? ⟨b2, 4, none⟩ = some (.int .i64 0) := (blk_cell HX4.out.zero 4).trans rfl
  have zc5 : W.cell? ⟨b2, 5, none⟩ = some (.int .i64 0) := (blk_cell HX4.out.zero 5).trans rfl
  have zc6 : W.cell? ⟨b2, 6, none⟩ = some (.bool false) := (blk_cell HX4.out.zero 6).trans rfl
  have zc7 : W.cell? ⟨b2, 7, none⟩ = some (.int .i64 0) := (blk_cell HX4.out.zero 7).trans rfl
  have zc8 : W.cell? ⟨b2, 8, none⟩ = some (.int .i64 0) := (blk_cell HX4.out.zero 8).trans rfl
  have zc9 : W.cell? ⟨b2, 9, none⟩ = some (.slice none 0 0) := (blk_cell HX4.out.zero 9).trans rfl
  have zc10 : W.cell? ⟨b2, 10, none⟩ = some (.int .i64 0) := (blk_cell HX4.out.zero 10).trans rfl
  have zc11 : W.cell? ⟨b2, 11, none⟩ = some (.int .i64 0) := (blk_cell HX4.out.zero 11).trans rfl
  have zc12 : W.cell? ⟨b2, 12, none⟩ = some (.int .i64 0) := (blk_cell HX4.out.zero 12).trans rfl
  have zc13 : W.cell? ⟨b2, 13, none⟩ = some (.slice none 0 0) := (blk_cell HX4.out.zero 13).trans rfl
  have zf0 := blk_frozen HX4.out.zero 0
  have zf1 := blk_frozen HX4.out.zero 1
  have zf2 := blk_frozen HX4.out.zero 2
  have zf3 := blk_frozen HX4.out.zero 3
  have zf4 := blk_frozen HX4.out.zero 4
  have zf5 := blk_frozen HX4.out.zero 5
  have zf6 := blk_frozen HX4.out.zero 6
  have zf7 := blk_frozen HX4.out.zero 7
  have zf8 := blk_frozen HX4.out.zero 8
  have zf9 := blk_frozen HX4.out.zero 9
  have zf10 := blk_frozen HX4.out.zero 10
  have zf11 := blk_frozen HX4.out.zero 11
  have zf12 := blk_frozen HX4.out.zero 12
  have zf13 := blk_frozen HX4.out.zero 13
  have zs0 : W.setCell ⟨b2, 0, none⟩ (.int .i64 0) = W := setCell_same HX4.out.zero rfl
  have zs1 : W.setCell ⟨b2, 1, none⟩ (.int .i64 0) = W := setCell_same HX4.out.zero rfl
  have zs2 : W.setCell ⟨b2, 2, none⟩ (.int .i64 0) = W := setCell_same HX4.out.zero rfl
  have zs3 : W.setCell ⟨b2, 3, none⟩ (.int .i64 0) = W := setCell_same HX4.out.zero rfl
  have zs4 : W.setCell ⟨b2, 4, none⟩ (.int .i64 0) = W := setCell_same HX4.out.zero rfl
  have zs5 : W.setCell ⟨b2, 5, none⟩ (.int .i64 0) = W := setCell_same HX4.out.zero rfl
  have zs6 : W.setCell ⟨b2, 6, none⟩ (.bool false) = W := setCell_same HX4.out.zero rfl
  have zs7 : W.setCell ⟨b2, 7, none⟩ (.int .i64 0) = W := setCell_same HX4.out.zero rfl
  have zs8 : W.setCell ⟨b2, 8, none⟩ (.int .i64 0) = W := setCell_same HX4.out.zero rfl
  have zs9 : W.setCell ⟨b2, 9, none⟩ (.slice none 0 0) = W := setCell_same HX4.out.zero rfl
  have zs10 : W.setCell ⟨b2, 10, none⟩ (.int .i64 0) = W := setCell_same HX4.out.zero rfl
  have zs11 : W.setCell ⟨b2, 11, none⟩ (.int .i64 0) = W := setCell_same HX4.out.zero rfl
  have zs12 : W.setCell ⟨b2, 12, none⟩ (.int .i64 0) = W := setCell_same HX4.out.zero rfl
  have zs13 : W.setCell ⟨b2, 13, none⟩ (.slice none 0 0) = W := setCell_same HX4.out.zero rfl
  go_wp2_with fail
  go_region
  go_wp2_with fail
  refine bodyPost_ret (results_ctt rfl _ _ b2 26 #[.int .i64 0, .int .i64 0, .int .i64 0, .int .i64 0, .int .i64 0, .int .i64 0, .bool false, .int .i64 0, .int .i64 0, .slice none 0 0, .int .i64 0, .int .i64 0, .int .i64 0, .slice none 0 0] (0, 0) _ rfl HX4.out.zero Tryz.underlying26 rfl (by kernel_rfl)) rfl ?_
  rw [HQ.out]
  exact Out.zero rfl (below_drew1 HX4.out.below)
end Dq
end Go.Proofs.YtaaifdclojkdmaaGreatDoor.MFr
