/- Texts of this claim, laid together by a program (wip/e/merge2.py): HFf. -/
import Derived.Test.YtaaifdclojkdmaaGreatDoorZFz4
set_option linter.unusedVariables false
set_option linter.unusedSimpArgs false
set_option maxRecDepth 100000
namespace Go.Proofs.YtaaifdclojkdmaaGreatDoor.MFr
open Go.RowKit Go.Proofs.YtaaifdclojkdmaaGreatDoorW.PrintWords Go.Proofs.YtaaifdclojkdmaaGreatDoorW.PrintLast Go.Proofs.YtaaifdclojkdmaaGreatDoorW.PrintMore Go.Proofs.YtaaifdclojkdmaaGreatDoor.Wire Go.Proofs.YtaaifdclojkdmaaGreatDoor.Evl
variable {base m g r0 fb : Nat} {A : Option Addr} {c : Nat} {l : List Int} {s s1 s2 : St}
set_option maxHeartbeats 1000000 in
theorem body_walk (w : World) (H : Fs w base m g r0 A c l s) (hl : l.length ≤ 1000000) (hb : Bys l) :
  Calls Tryz.prog 80 #[.pointer (some ⟨g, 0, none⟩)] w fun ev w' => ∃ v, ev = .returned v ∧ (Kd.int .u8).R 5 w' w.heap.size (fun _ => True) v (bodyF l s).1 ∧ Fa w w' base m g r0 A c l (bodyF l s).2 := by
 have HH := Aside0.mk H
 have hp1 := plainN1 (s := s) hb H.a0
 have HS := Aside0.mk (small_walk 0 24 w H hl hb)
 by_cases he : (enoughS l (plainS l s 1 0 24) (plainN l s 1)).e = 0
 ·have HZ : Aside0 (bodyF l s = (cut l (plainS l s 1 0 24).at_ (plainN l s 1), ⟨(plainS l s 1 0 24).at_ + plainN l s 1, 0, (plainS l s 1 0 24).ea⟩)) := ⟨if_pos he⟩
  rw [HZ.out]
  have hy := enough_yes he
  have hes := enough_same hy.1 hy.2
  clear HZ H hb
  generalize plainN l s 1 = n0 at *
  generalize plainS l s 1 0 24 = s0 at *
  have HY := Aside0.mk hy
  have HP := Aside0.mk hp1
  have HES := Aside0.mk hes
  clear hy hp1 he hes
  go_enter Tryz.func80, Tryz.ntmps80
  go_wp2_with fail
  refine HS.out.mono ?_
  rintro e w1 ⟨rfl, hF⟩
  have H1 := Aside0.mk hF
  clear hF HS
  go_wp2_with fail
  have W2 := enough_walk n0 _ H1.out.fs hl
  rw [HES.out, decide_eq_true HY.out.1] at W2
  refine W2.mono ?_
  rintro e w2 ⟨rfl, hF⟩
  have H2 := Aside0.mk (H1.out.then_ hF)
  clear hF W2
  have hp := H2.out.fs.cells
  go_wp2_with fail
  refine (take_walk n0 _ H2.out.fs.rd H2.out.fs.a0 H2.out.fs.a1 hl).mono ?_
  rintro e w3 ⟨v, rfl, ho, hA⟩
  have hk : tk l s0.at_ false n0 = (cut l s0.at_ n0, s0.at_ + n0, false) := by
   unfold tk cut
   rw [if_neg (by simp; have := HY.out; have := HP.out; omega)]
  rw [hk] at ho hA
  have H3 := Aside0.mk (H2.out.then_ (H2.out.fs.read hA (by have := H2.out.fs.a0; have := HP.out; show 0 ≤ s0.at_ + n0; omega) (by have := HY.out; show s0.at_ + n0 ≤ l.length; omega)))
  have HO := Aside0.mk (Kd.R_lower ho H2.out.keep.1)
  clear ho hA hp
  go_wp2_with fail
  go_ret
  have h0 := HY.out.1
  refine ⟨_, rfl, HO.out, ?_⟩
  have := H3.out
  rw [h0] at this
  exact this
 ·have HZ : Aside0 (bodyF l s = ([], enoughS l (plainS l s 1 0 24) (plainN l s 1))) := ⟨if_neg he⟩
  rw [HZ.out]
  clear HZ H hb hp1
  generalize plainN l s 1 = n0 at *
  generalize plainS l s 1 0 24 = s0 at *
  have HE := Aside0.mk he
  clear he
  go_enter Tryz.func80, Tryz.ntmps80
  go_wp2_with fail
  refine HS.out.mono ?_
  rintro e w1 ⟨rfl, hF⟩
  have H1 := Aside0.mk hF
  clear hF HS
  go_wp2_with fail
  have W2 := enough_walk n0 _ H1.out.fs hl
  rw [decide_eq_false HE.out] at W2
  refine W2.mono ?_
  rintro e w2 ⟨rfl, hF⟩
  have H2 := Aside0.mk (H1.out.then_ hF)
  clear hF W2
  go_wp2_with fail
  go_ret
  exact ⟨_, rfl, Kd.R_nil _ _ _ _ _, H2.out⟩
structure Fx (w w' : World) (base m g r0 fb : Nat) (A : Option Addr) (c : Nat) (l : List Int) (s : St) : Prop where
 below : Below base w w'
 size : w.heap.size ≤ w'.heap.size
 keep : ∀ i, i < w.heap.size → i ≠ g → i ≠ r0 → i ≠ fb → w'.heap[i]? = w.heap[i]?
 fs : Fs w' base m g r0 A c l s
 gf : g < fb
 fm : fb < m
def Fb (w : World) (fb : Nat) (cs : Array Value) : Prop := w.heap[fb]? = some (.cells cs 26 (0, 0))
theorem Fx.same {w : World} (H : Fs w base m g r0 A c l s) (h1 : g < fb) (h2 : fb < m) : Fx w w base m g r0 fb A c l s := ⟨Below.refl _ _, Nat.le_refl _, fun _ _ _ _ _ => rfl, H, h1, h2⟩
theorem Fx.call {w w1 w2 : World} {cs : Array Value} (H : Fx w w1 base m g r0 fb A c l s1) (hb : Fb w1 fb cs) (K : Fa w1 w2 base m g r0 A c l s2) : Fx w w2 base m g r0 fb A c l s2 ∧ Fb w2 fb cs := by
 have h1 := H.gf
 have h2 := H.fs.hg
 exact ⟨⟨H.below.trans K.below, Nat.le_trans H.size K.keep.1, fun i hi a b d => (K.keep.2 i (Nat.lt_of_lt_of_le hi H.size) a (fun e => b (by injection e))).trans (H.keep i hi a b d), K.fs, H.gf, H.fm⟩, K.keep.blk hb (by omega) (fun e => by injection e with e; omega)⟩
theorem Fs.set {w : World} {i : Nat} {u : Value} (H : Fs w base m g r0 A c l s) (h1 : g < fb) (h2 : fb < m) : Fs (w.setCell ⟨fb, i, none⟩ u) base m g r0 A c l s := by
 have hg := H.hg
 obtain ⟨ev, hb, he⟩ := H.er
 refine ⟨⟨blk_far H.rd.1 (by show r0 ≠ fb; omega) _, Kd.R_far H.rd.2.1 (fun k hk => by have : k < r0 := hk; show k ≠ fb; omega) _, H.rd.2.2⟩, ⟨ev, blk_far hb (by show g ≠ fb; omega) _, he.keep fun k hk _ => Below.heap_setCell _ _ _ _ (by show k ≠ fb; omega)⟩, H.hg, H.gm, ?_, H.a0, H.a1⟩
 have := H.ms
 simpa [World.setCell] using this
theorem Fx.set {w w1 : World} {cs : Array Value} (H : Fx w w1 base m g r0 fb A c l s) (hb : Fb w1 fb cs) (i : Nat) (u : Value) : Fx w (w1.setCell ⟨fb, i, none⟩ u) base m g r0 fb A c l s ∧ Fb (w1.setCell ⟨fb, i, none⟩ u) fb (cs.setIfInBounds i u) := by
 have h1 := H.gf
 have h3 := H.fs.low
 have h2 := H.fs.hg
 exact ⟨⟨H.below.setCell (by show base ≤ fb; omega) _, by simpa [World.setCell] using H.size, fun k hk a b d => (Below.heap_setCell _ _ _ _ d).trans (H.keep k hk a b d), H.fs.set H.gf H.fm, H.gf, H.fm⟩, blk_set hb i u⟩
theorem Fx.then_ {w w1 w2 : World} (H : Fx w w1 base m g r0 fb A c l s1) (K : Fx w1 w2 base m g r0 fb A c l s2) : Fx w w2 base m g r0 fb A c l s2 :=
 ⟨H.below.trans K.below, Nat.le_trans H.size K.size, fun i hi a b d => (K.keep i (Nat.lt_of_lt_of_le hi H.size) a b d).trans (H.keep i hi a b d), K.fs, H.gf, H.fm⟩
theorem R_ahead {α : Type} {d : Kd α} {e b : Nat} {w : World} {v : Value} {xs : List α} (h : d.R e w b (fun _ => True) v xs) (i : Nat) (u : Value) (k : fb < b) : d.R e (w.setCell ⟨fb, i, none⟩ u) b (fun _ => True) v xs :=
 Kd.R_mono (Kd.R_far (Kd.R_bound h) (fun q hq => by have := hq.2.1; show q ≠ fb; omega) _) (fun _ _ => trivial)
set_option maxHeartbeats 4000000 in
theorem linked3 (w : World) (p n lk : Int) {x1 x3 x5 : Int} {s1_ s3_ s5_ : St} (H : Fs w base m g r0 A c l s) (h1 : g < fb) (h2 : fb < m) (hfb : Fb w fb #[.int .i64 3, .int .i64 p, .int .i64 n, .int .i64 0, .int .i64 0, .int .i64 lk, .bool false, .int .i64 0, .int .i64 0, .slice none 0 0, .int .i64 0, .int .i64 0, .int .i64 0, .slice none 0 0]) (hl : l.length ≤ 1000000) (hb : Bys l) (q1_0 : plainN l s 1 = x1) (q1_1 : plainS l s 1 0 1 = s1_) (q3_0 : plainN l s1_ 6 = x3) (q3_1 : plainS l s1_ 6 0 1099511627776 = s3_) (q5_0 : signedN l s3_ 6 = x5) (q5_1 : signedS l s3_ 6 = s5_) :
  Calls Tryz.prog 58 #[.pointer (some ⟨g, 0, none⟩), .pointer (some ⟨fb, 0, none⟩)] w fun ev w' => ev = .returned (.tuple #[]) ∧ Fx w w' base m g r0 fb A c l s5_ ∧ Fb w' fb #[.int .i64 3, .int .i64 p, .int .i64 n, .int .i64 0, .int .i64 0, .int .i64 lk, .bool (x1 == 1), .int .i64 x3, .int .i64 x5, .slice none 0 0, .int .i64 0, .int .i64 0, .int .i64 0, .slice none 0 0] := by
 have HX0 := Aside0.mk (Fx.same H h1 h2)
 have HB0 := Aside0.mk hfb
 have HYS := Aside0.mk hb
 clear hfb hb
 have y0 := (blk_cell HB0.out 0).trans rfl
 have z0 := blk_frozen HB0.out 0
 go_enter Tryz.func58, Tryz.ntmps58
 go_wp2_with fail
 clear y0 z0
 have W_ := small_walk 0 1 _ HX0.out.fs hl HYS.out
 rw [q1_0, q1_1] at W_
 refine W_.mono ?_
 rintro e w1 ⟨rfl, hF⟩
 have P_ := Fx.call HX0.out HB0.out hF
 have HX1 := Aside0.mk P_.1
 have HB1 := Aside0.mk P_.2
 clear hF P_ W_
 have y6 := (blk_cell HB1.out 6).trans rfl
 have z6 := blk_frozen HB1.out 6
 have P_ := Fx.set HX1.out HB1.out 6 (.bool (x1 == 1))
 have HX2 := Aside0.mk P_.1
 have HB2 : Aside0 (Fb _ fb #[.int .i64 3, .int .i64 p, .int .i64 n, .int .i64 0, .int .i64 0, .int .i64 lk, .bool (x1 == 1), .int .i64 0, .int .i64 0, .slice none 0 0, .int .i64 0, .int .i64 0, .int .i64 0, .slice none 0 0]) := Aside0.mk P_.2
 clear P_
 go_wp2_with fail
 clear y6 z6
 have W_ := plain_walk 6 0 1099511627776 _ HX2.out.fs hl HYS.out (by decide) (by decide)
 rw [q3_0, q3_1] at W_
 refine W_.mono ?_
 rintro e w2 ⟨rfl, hF⟩
 have P_ := Fx.call HX2.out HB2.out hF
 have HX3 := Aside0.mk P_.1
 have HB3 := Aside0.mk P_.2
 clear hF P_ W_
 have y7 := (blk_cell HB3.out 7).trans rfl
 have z7 := blk_frozen HB3.out 7
 have P_ := Fx.set HX3.out HB3.out 7 (.int .i64 x3)
 have HX4 := Aside0.mk P_.1
 have HB4 : Aside0 (Fb _ fb #[.int .i64 3, .int .i64 p, .int .i64 n, .int .i64 0, .int .i64 0, .int .i64 lk, .bool (x1 == 1), .int .i64 x3, .int .i64 0, .slice none 0 0, .int .i64 0, .int .i64 0, .int .i64 0, .slice none 0 0]) := Aside0.mk P_.2
 clear P_
 go_wp2_with fail
 clear y7 z7
 have W_ := signed_walk 6 _ HX4.out.fs hl HYS.out (by decide) (by decide)
 rw [q5_0, q5_1] at W_
 refine W_.mono ?_
 rintro e w3 ⟨rfl, hF⟩
 have P_ := Fx.call HX4.out HB4.out hF
 have HX5 := Aside0.mk P_.1
 have HB5 := Aside0.mk P_.2
 clear hF P_ W_
 have y8 := (blk_cell HB5.out 8).trans rfl
 have z8 := blk_frozen HB5.out 8
 have P_ := Fx.set HX5.out HB5.out 8 (.int .i64 x5)
 have HX6 := Aside0.mk P_.1
 have HB6 : Aside0 (Fb _ fb #[.int .i64 3, .int .i64 p, .int .i64 n, .int .i64 0, .int .i64 0, .int .i64 lk, .bool (x1 == 1), .int .i64 x3, .int .i64 x5, .slice none 0 0, .int .i64 0, .int .i64 0, .int .i64 0, .slice none 0 0]) := Aside0.mk P_.2
 clear P_
 go_wp2_with fail
 go_end0
 exact ⟨rfl, HX6.out, HB6.out⟩
set_option maxHeartbeats 4000000 in
theorem linked4 (w : World) (p n lk : Int) {L1 : List Int} {s1_ : St} (H : Fs w base m g r0 A c l s) (h1 : g < fb) (h2 : fb < m) (hfb : Fb w fb #[.int .i64 4, .int .i64 p, .int .i64 n, .int .i64 0, .int .i64 0, .int .i64 lk, .bool false, .int .i64 0, .int .i64 0, .slice none 0 0, .int .i64 0, .int .i64 0, .int .i64 0, .slice none 0 0]) (hl : l.length ≤ 1000000) (hb : Bys l) (q1_0 : agesF l s = (L1, s1_)) :
  Calls Tryz.prog 58 #[.pointer (some ⟨g, 0, none⟩), .pointer (some ⟨fb, 0, none⟩)] w fun ev w' => ev = .returned (.tuple #[]) ∧ Fx w w' base m g r0 fb A c l s1_ ∧ ∃ v, Fb w' fb #[.int .i64 4, .int .i64 p, .int .i64 n, .int .i64 0, .int .i64 0, .int .i64 lk, .bool false, .int .i64 0, .int .i64 0, v, .int .i64 0, .int .i64 0, .int .i64 0, .slice none 0 0] ∧ (Kd.int .i64).R 3 w' m (fun _ => True) v L1 := by
 have HX0 := Aside0.mk (Fx.same H h1 h2)
 have HB0 := Aside0.mk hfb
 have HYS := Aside0.mk hb
 clear hfb hb
 have y0 := (blk_cell HB0.out 0).trans rfl
 have z0 := blk_frozen HB0.out 0
 go_enter Tryz.func58, Tryz.ntmps58
 go_wp2_with fail
 clear y0 z0
 have W_ := ages_walk _ HX0.out.fs hl HYS.out
 rw [q1_0] at W_
 refine W_.mono ?_
 rintro e w1 ⟨v, rfl, ho, hF⟩
 obtain ⟨A1_, c1_, rfl⟩ := Kd.R_slice ho
 have HO := Aside0.mk ho
 have P_ := Fx.call HX0.out HB0.out hF
 have HS_ := Aside0.mk (show fb < _ from Nat.lt_of_lt_of_le h2 HX0.out.fs.ms)
 have HX1 := Aside0.mk P_.1
 have HB1 := Aside0.mk P_.2
 clear hF P_ W_ ho
 have y9 := (blk_cell HB1.out 9).trans rfl
 have z9 := blk_frozen HB1.out 9
 have P_ := Fx.set HX1.out HB1.out 9 (.slice A1_ L1.length c1_)
 have HX2 := Aside0.mk P_.1
 have HB2 : Aside0 (Fb _ fb #[.int .i64 4, .int .i64 p, .int .i64 n, .int .i64 0, .int .i64 0, .int .i64 lk, .bool false, .int .i64 0, .int .i64 0, .slice A1_ L1.length c1_, .int .i64 0, .int .i64 0, .int .i64 0, .slice none 0 0]) := Aside0.mk P_.2
 clear P_
 have HO_ := Aside0.mk (R_ahead HO.out 9 (.slice A1_ L1.length c1_) HS_.out)
 have HO := HO_
 clear HO_
 go_wp2_with fail
 go_end0
 exact ⟨rfl, HX2.out, _, HB2.out, Kd.R_lower HO.out HX0.out.fs.ms⟩
set_option maxHeartbeats 4000000 in
theorem linked5 (w : World) (p n lk : Int) {x1 x2 x5 : Int} {L7 : List Int} {s1_ s2_ s5_ s7_ : St} (H : Fs w base m g r0 A c l s) (h1 : g < fb) (h2 : fb < m) (hfb : Fb w fb #[.int .i64 5, .int .i64 p, .int .i64 n, .int .i64 0, .int .i64 0, .int .i64 lk, .bool false, .int .i64 0, .int .i64 0, .slice none 0 0, .int .i64 0, .int .i64 0, .int .i64 0, .slice none 0 0]) (hl : l.length ≤ 1000000) (hb : Bys l) (q1_0 : plainN l s 1 = x1) (q1_1 : plainS l s 1 0 5 = s1_) (q2_0 : plainN l s1_ 1 = x2) (q2_1 : plainS l s1_ 1 0 5 = s2_) (q5_0 : plainN l s2_ 4 = x5) (q5_1 : plainS l s2_ 4 1 2147483648 = s5_) (q7_0 : bodyF l s5_ = (L7, s7_)) :
  Calls Tryz.prog 58 #[.pointer (some ⟨g, 0, none⟩), .pointer (some ⟨fb, 0, none⟩)] w fun ev w' => ev = .returned (.tuple #[]) ∧ Fx w w' base m g r0 fb A c l s7_ ∧ ∃ v, Fb w' fb #[.int .i64 5, .int .i64 p, .int .i64 n, .int .i64 0, .int .i64 0, .int .i64 lk, .bool false, .int .i64 0, .int .i64 0, .slice none 0 0, .int .i64 x1, .int .i64 x2, .int .i64 x5, v] ∧ (Kd.int .u8).R 5 w' m (fun _ => True) v L7 := by
 have HX0 := Aside0.mk (Fx.same H h1 h2)
 have HB0 := Aside0.mk hfb
 have HYS := Aside0.mk hb
 clear hfb hb
 have y0 := (blk_cell HB0.out 0).trans rfl
 have z0 := blk_frozen HB0.out 0
 go_enter Tryz.func58, Tryz.ntmps58
 go_wp2_with fail
 clear y0 z0
 have W_ := small_walk 0 5 _ HX0.out.fs hl HYS.out
 rw [q1_0, q1_1] at W_
 refine W_.mono ?_
 rintro e w1 ⟨rfl, hF⟩
 have P_ := Fx.call HX0.out HB0.out hF
 have HX1 := Aside0.mk P_.1
 have HB1 := Aside0.mk P_.2
 clear hF P_ W_
 go_wp2_with fail
 have W_ := small_walk 0 5 _ HX1.out.fs hl HYS.out
 rw [q2_0, q2_1] at W_
 refine W_.mono ?_
 rintro e w2 ⟨rfl, hF⟩
 have P_ := Fx.call HX1.out HB1.out hF
 have HX2 := Aside0.mk P_.1
 have HB2 := Aside0.mk P_.2
 clear hF P_ W_
 have y10 := (blk_cell HB2.out 10).trans rfl
 have z10 := blk_frozen HB2.out 10
 have y11 := (blk_cell HB2.out 11).trans rfl
 have z11 := blk_frozen HB2.out 11
 have P_ := Fx.set HX2.out HB2.out 10 (.int .i64 x1)
 have HX3 := Aside0.mk P_.1
 have HB3 : Aside0 (Fb _ fb #[.int .i64 5, .int .i64 p, .int .i64 n, .int .i64 0, .int .i64 0, .int .i64 lk, .bool false, .int .i64 0, .int .i64 0, .slice none 0 0, .int .i64 x1, .int .i64 0, .int .i64 0, .slice none 0 0]) := Aside0.mk P_.2
 clear P_
 have P_ := Fx.set HX3.out HB3.out 11 (.int .i64 x2)
 have HX4 := Aside0.mk P_.1
 have HB4 : Aside0 (Fb _ fb #[.int .i64 5, .int .i64 p, .int .i64 n, .int .i64 0, .int .i64 0, .int .i64 lk, .bool false, .int .i64 0, .int .i64 0, .slice none 0 0, .int .i64 x1, .int .i64 x2, .int .i64 0, .slice none 0 0]) := Aside0.mk P_.2
 clear P_
 go_wp2_with fail
 clear y10 z10 y11 z11
 have W_ := plain_walk 4 1 2147483648 _ HX4.out.fs hl HYS.out (by decide) (by decide)
 rw [q5_0, q5_1] at W_
 refine W_.mono ?_
 rintro e w3 ⟨rfl, hF⟩
 have P_ := Fx.call HX4.out HB4.out hF
 have HX5 := Aside0.mk P_.1
 have HB5 := Aside0.mk P_.2
 clear hF P_ W_
 have y12 := (blk_cell HB5.out 12).trans rfl
 have z12 := blk_frozen HB5.out 12
 have P_ := Fx.set HX5.out HB5.out 12 (.int .i64 x5)
 have HX6 := Aside0.mk P_.1
 have HB6 : Aside0 (Fb _ fb #[.int .i64 5, .int .i64 p, .int .i64 n, .int .i64 0, .int .i64 0, .int .i64 lk, .bool false, .int .i64 0, .int .i64 0, .slice none 0 0, .int .i64 x1, .int .i64 x2, .int .i64 x5, .slice none 0 0]) := Aside0.mk P_.2
 clear P_
 go_wp2_with fail
 clear y12 z12
 have W_ := body_walk _ HX6.out.fs hl HYS.out
 rw [q7_0] at W_
 refine W_.mono ?_
 rintro e w4 ⟨v, rfl, ho, hF⟩
 obtain ⟨A1_, c1_, rfl⟩ := Kd.R_slice ho
 have HO := Aside0.mk ho
 have P_ := Fx.call HX6.out HB6.out hF
 have HS_ := Aside0.mk (show fb < _ from Nat.lt_of_lt_of_le h2 HX6.out.fs.ms)
 have HX7 := Aside0.mk P_.1
 have HB7 := Aside0.mk P_.2
 clear hF P_ W_ ho
 have y13 := (blk_cell HB7.out 13).trans rfl
 have z13 := blk_frozen HB7.out 13
 have P_ := Fx.set HX7.out HB7.out 13 (.slice A1_ L7.length c1_)
 have HX8 := Aside0.mk P_.1
 have HB8 : Aside0 (Fb _ fb #[.int .i64 5, .int .i64 p, .int .i64 n, .int .i64 0, .int .i64 0, .int .i64 lk, .bool false, .int .i64 0, .int .i64 0, .slice none 0 0, .int .i64 x1, .int .i64 x2, .int .i64 x5, .slice A1_ L7.length c1_]) := Aside0.mk P_.2
 clear P_
 have HO_ := Aside0.mk (R_ahead HO.out 13 (.slice A1_ L7.length c1_) HS_.out)
 have HO := HO_
 clear HO_
 go_wp2_with fail
 go_end0
 exact ⟨rfl, HX8.out, _, HB8.out, Kd.R_lower HO.out HX6.out.fs.ms⟩
set_option maxHeartbeats 4000000 in
theorem fields1 (w : World) {x1 x2 x5 : Int} {s1_ s2_ s5_ : St} (H : Fs w base m g r0 A c l s) (h1 : g < fb) (h2 : fb < m) (hfb : Fb w fb #[.int .i64 1, .int .i64 0, .int .i64 0, .int .i64 0, .int .i64 0, .int .i64 0, .bool false, .int .i64 0, .int .i64 0, .slice none 0 0, .int .i64 0, .int .i64 0, .int .i64 0, .slice none 0 0]) (hl : l.length ≤ 1000000) (hb : Bys l) (q1_0 : plainN l s 1 = x1) (q1_1 : plainS l s 1 0 5 = s1_) (q2_0 : plainN l s1_ 1 = x2) (q2_1 : plainS l s1_ 1 0 11 = s2_) (q5_0 : plainN l s2_ 2 = x5) (q5_1 : plainS l s2_ 2 0 60000 = s5_) :
  Calls Tryz.prog 31 #[.pointer (some ⟨g, 0, none⟩), .pointer (some ⟨fb, 0, none⟩)] w fun ev w' => ev = .returned (.tuple #[]) ∧ Fx w w' base m g r0 fb A c l s5_ ∧ Fb w' fb #[.int .i64 1, .int .i64 x1, .int .i64 x2, .int .i64 x5, .int .i64 0, .int .i64 0, .bool false, .int .i64 0, .int .i64 0, .slice none 0 0, .int .i64 0, .int .i64 0, .int .i64 0, .slice none 0 0] := by
 have HX0 := Aside0.mk (Fx.same H h1 h2)
 have HB0 := Aside0.mk hfb
 have HYS := Aside0.mk hb
 clear hfb hb
 go_enter Tryz.func31, Tryz.ntmps31
 go_wp2_with fail
 have W_ := small_walk 0 5 _ HX0.out.fs hl HYS.out
 rw [q1_0, q1_1] at W_
 refine W_.mono ?_
 rintro e w1 ⟨rfl, hF⟩
 have P_ := Fx.call HX0.out HB0.out hF
 have HX1 := Aside0.mk P_.1
 have HB1 := Aside0.mk P_.2
 clear hF P_ W_
 go_wp2_with fail
 have W_ := small_walk 0 11 _ HX1.out.fs hl HYS.out
 rw [q2_0, q2_1] at W_
 refine W_.mono ?_
 rintro e w2 ⟨rfl, hF⟩
 have P_ := Fx.call HX1.out HB1.out hF
 have HX2 := Aside0.mk P_.1
 have HB2 := Aside0.mk P_.2
 clear hF P_ W_
 have y1 := (blk_cell HB2.out 1).trans rfl
 have z1 := blk_frozen HB2.out 1
 have y2 := (blk_cell HB2.out 2).trans rfl
 have z2 := blk_frozen HB2.out 2
 have y0 := (blk_cell HB2.out 0).trans rfl
 have z0 := blk_frozen HB2.out 0
 have P_ := Fx.set HX2.out HB2.out 1 (.int .i64 x1)
 have HX3 := Aside0.mk P_.1
 have HB3 : Aside0 (Fb _ fb #[.int .i64 1, .int .i64 x1, .int .i64 0, .int .i64 0, .int .i64 0, .int .i64 0, .bool false, .int .i64 0, .int .i64 0, .slice none 0 0, .int .i64 0, .int .i64 0, .int .i64 0, .slice none 0 0]) := Aside0.mk P_.2
 clear P_
 have P_ := Fx.set HX3.out HB3.out 2 (.int .i64 x2)
 have HX4 := Aside0.mk P_.1
 have HB4 : Aside0 (Fb _ fb #[.int .i64 1, .int .i64 x1, .int .i64 x2, .int .i64 0, .int .i64 0, .int .i64 0, .bool false, .int .i64 0, .int .i64 0, .slice none 0 0, .int .i64 0, .int .i64 0, .int .i64 0, .slice none 0 0]) := Aside0.mk P_.2
 clear P_
 have yk := (blk_cell HB4.out 0).trans rfl
 go_wp2_with fail
 clear y1 z1 y2 z2 y0 z0
 have W_ := plain_walk 2 0 60000 _ HX4.out.fs hl HYS.out (by decide) (by decide)
 rw [q5_0, q5_1] at W_
 refine W_.mono ?_
 rintro e w3 ⟨rfl, hF⟩
 have P_ := Fx.call HX4.out HB4.out hF
 have HX5 := Aside0.mk P_.1
 have HB5 := Aside0.mk P_.2
 clear hF P_ W_
 have y3 := (blk_cell HB5.out 3).trans rfl
 have z3 := blk_frozen HB5.out 3
 have P_ := Fx.set HX5.out HB5.out 3 (.int .i64 x5)
 have HX6 := Aside0.mk P_.1
 have HB6 : Aside0 (Fb _ fb #[.int .i64 1, .int .i64 x1, .int .i64 x2, .int .i64 x5, .int .i64 0, .int .i64 0, .bool false, .int .i64 0, .int .i64 0, .slice none 0 0, .int .i64 0, .int .i64 0, .int .i64 0, .slice none 0 0]) := Aside0.mk P_.2
 clear P_
 go_wp2_with fail
 go_end0
 exact ⟨rfl, HX6.out, HB6.out⟩
set_option maxHeartbeats 4000000 in
theorem fields2 (w : World) {x1 x2 x5 x7 : Int} {L9 : List Int} {s1_ s2_ s5_ s7_ s9_ : St} (H : Fs w base m g r0 A c l s) (h1 : g < fb) (h2 : fb < m) (hfb : Fb w fb #[.int .i64 2, .int .i64 0, .int .i64 0, .int .i64 0, .int .i64 0, .int .i64 0, .bool false, .int .i64 0, .int .i64 0, .slice none 0 0, .int .i64 0, .int .i64 0, .int .i64 0, .slice none 0 0]) (hl : l.length ≤ 1000000) (hb : Bys l) (q1_0 : plainN l s 1 = x1) (q1_1 : plainS l s 1 0 5 = s1_) (q2_0 : plainN l s1_ 1 = x2) (q2_1 : plainS l s1_ 1 0 11 = s2_) (q5_0 : plainN l s2_ 6 = x5) (q5_1 : plainS l s2_ 6 0 1099511627776 = s5_) (q7_0 : plainN l s5_ 2 = x7) (q7_1 : plainS l s5_ 2 0 4095 = s7_) (q9_0 : agesF l s7_ = (L9, s9_)) :
  Calls Tryz.prog 31 #[.pointer (some ⟨g, 0, none⟩), .pointer (some ⟨fb, 0, none⟩)] w fun ev w' => ev = .returned (.tuple #[]) ∧ Fx w w' base m g r0 fb A c l s9_ ∧ ∃ v, Fb w' fb #[.int .i64 2, .int .i64 x1, .int .i64 x2, .int .i64 0, .int .i64 x7, .int .i64 0, .bool false, .int .i64 x5, .int .i64 0, v, .int .i64 0, .int .i64 0, .int .i64 0, .slice none 0 0] ∧ (Kd.int .i64).R 3 w' m (fun _ => True) v L9 := by
 have HX0 := Aside0.mk (Fx.same H h1 h2)
 have HB0 := Aside0.mk hfb
 have HYS := Aside0.mk hb
 clear hfb hb
 go_enter Tryz.func31, Tryz.ntmps31
 go_wp2_with fail
 have W_ := small_walk 0 5 _ HX0.out.fs hl HYS.out
 rw [q1_0, q1_1] at W_
 refine W_.mono ?_
 rintro e w1 ⟨rfl, hF⟩
 have P_ := Fx.call HX0.out HB0.out hF
 have HX1 := Aside0.mk P_.1
 have HB1 := Aside0.mk P_.2
 clear hF P_ W_
 go_wp2_with fail
 have W_ := small_walk 0 11 _ HX1.out.fs hl HYS.out
 rw [q2_0, q2_1] at W_
 refine W_.mono ?_
 rintro e w2 ⟨rfl, hF⟩
 have P_ := Fx.call HX1.out HB1.out hF
 have HX2 := Aside0.mk P_.1
 have HB2 := Aside0.mk P_.2
 clear hF P_ W_
 have y1 := (blk_cell HB2.out 1).trans rfl
 have z1 := blk_frozen HB2.out 1
 have y2 := (blk_cell HB2.out 2).trans rfl
 have z2 := blk_frozen HB2.out 2
 have y0 := (blk_cell HB2.out 0).trans rfl
 have z0 := blk_frozen HB2.out 0
 have P_ := Fx.set HX2.out HB2.out 1 (.int .i64 x1)
 have HX3 := Aside0.mk P_.1
 have HB3 : Aside0 (Fb _ fb #[.int .i64 2, .int .i64 x1, .int .i64 0, .int .i64 0, .int .i64 0, .int .i64 0, .bool false, .int .i64 0, .int .i64 0, .slice none 0 0, .int .i64 0, .int .i64 0, .int .i64 0, .slice none 0 0]) := Aside0.mk P_.2
 clear P_
 have P_ := Fx.set HX3.out HB3.out 2 (.int .i64 x2)
 have HX4 := Aside0.mk P_.1
 have HB4 : Aside0 (Fb _ fb #[.int .i64 2, .int .i64 x1, .int .i64 x2, .int .i64 0, .int .i64 0, .int .i64 0, .bool false, .int .i64 0, .int .i64 0, .slice none 0 0, .int .i64 0, .int .i64 0, .int .i64 0, .slice none 0 0]) := Aside0.mk P_.2
 clear P_
 have yk := (blk_cell HB4.out 0).trans rfl
 go_wp2_with fail
 clear y1 z1 y2 z2 y0 z0
 have W_ := plain_walk 6 0 1099511627776 _ HX4.out.fs hl HYS.out (by decide) (by decide)
 rw [q5_0, q5_1] at W_
 refine W_.mono ?_
 rintro e w3 ⟨rfl, hF⟩
 have P_ := Fx.call HX4.out HB4.out hF
 have HX5 := Aside0.mk P_.1
 have HB5 := Aside0.mk P_.2
 clear hF P_ W_
 have y7 := (blk_cell HB5.out 7).trans rfl
 have z7 := blk_frozen HB5.out 7
 have P_ := Fx.set HX5.out HB5.out 7 (.int .i64 x5)
 have HX6 := Aside0.mk P_.1
 have HB6 : Aside0 (Fb _ fb #[.int .i64 2, .int .i64 x1, .int .i64 x2, .int .i64 0, .int .i64 0, .int .i64 0, .bool false, .int .i64 x5, .int .i64 0, .slice none 0 0, .int .i64 0, .int .i64 0, .int .i64 0, .slice none 0 0]) := Aside0.mk P_.2
 clear P_
 go_wp2_with fail
 clear y7 z7
 have W_ := plain_walk 2 0 4095 _ HX6.out.fs hl HYS.out (by decide) (by decide)
 rw [q7_0, q7_1] at W_
 refine W_.mono ?_
 rintro e w4 ⟨rfl, hF⟩
 have P_ := Fx.call HX6.out HB6.out hF
 have HX7 := Aside0.mk P_.1
 have HB7 := Aside0.mk P_.2
 clear hF P_ W_
 have y4 := (blk_cell HB7.out 4).trans rfl
 have z4 := blk_frozen HB7.out 4
 have P_ := Fx.set HX7.out HB7.out 4 (.int .i64 x7)
 have HX8 := Aside0.mk P_.1
 have HB8 : Aside0 (Fb _ fb #[.int .i64 2, .int .i64 x1, .int .i64 x2, .int .i64 0, .int .i64 x7, .int .i64 0, .bool false, .int .i64 x5, .int .i64 0, .slice none 0 0, .int .i64 0, .int .i64 0, .int .i64 0, .slice none 0 0]) := Aside0.mk P_.2
 clear P_
 go_wp2_with fail
 clear y4 z4
 have W_ := ages_walk _ HX8.out.fs hl HYS.out
 rw [q9_0] at W_
 refine W_.mono ?_
 rintro e w5 ⟨v, rfl, ho, hF⟩
 obtain ⟨A1_, c1_, rfl⟩ := Kd.R_slice ho
 have HO := Aside0.mk ho
 have P_ := Fx.call HX8.out HB8.out hF
 have HS_ := Aside0.mk (show fb < _ from Nat.lt_of_lt_of_le h2 HX8.out.fs.ms)
 have HX9 := Aside0.mk P_.1
 have HB9 := Aside0.mk P_.2
 clear hF P_ W_ ho
 have y9 := (blk_cell HB9.out 9).trans rfl
 have z9 := blk_frozen HB9.out 9
 have P_ := Fx.set HX9.out HB9.out 9 (.slice A1_ L9.length c1_)
 have HX10 := Aside0.mk P_.1
 have HB10 : Aside0 (Fb _ fb #[.int .i64 2, .int .i64 x1, .int .i64 x2, .int .i64 0, .int .i64 x7, .int .i64 0, .bool false, .int .i64 x5, .int .i64 0, .slice A1_ L9.length c1_, .int .i64 0, .int .i64 0, .int .i64 0, .slice none 0 0]) := Aside0.mk P_.2
 clear P_
 have HO_ := Aside0.mk (R_ahead HO.out 9 (.slice A1_ L9.length c1_) HS_.out)
 have HO := HO_
 clear HO_
 go_wp2_with fail
 go_end0
 exact ⟨rfl, HX10.out, _, HB10.out, Kd.R_lower HO.out HX8.out.fs.ms⟩
set_option maxHeartbeats 4000000 in
theorem fields3 (w : World) {x1 x2 x5 y1 y2 y3 : Int} {s1_ s2_ s5_ u1 u2 u3 : St} (H : Fs w base m g r0 A c l s) (h1 : g < fb) (h2 : fb < m) (hfb : Fb w fb #[.int .i64 3, .int .i64 0, .int .i64 0, .int .i64 0, .int .i64 0, .int .i64 0, .bool false, .int .i64 0, .int .i64 0, .slice none 0 0, .int .i64 0, .int .i64 0, .int .i64 0, .slice none 0 0]) (hl : l.length ≤ 1000000) (hb : Bys l) (q1_0 : plainN l s 1 = x1) (q1_1 : plainS l s 1 0 5 = s1_) (q2_0 : plainN l s1_ 1 = x2) (q2_1 : plainS l s1_ 1 0 11 = s2_) (q5_0 : plainN l s2_ 1 = x5) (q5_1 : plainS l s2_ 1 0 9 = s5_) (t0 : plainN l s5_ 1 = y1) (t1 : plainS l s5_ 1 0 1 = u1) (t2 : plainN l u1 6 = y2) (t3 : plainS l u1 6 0 1099511627776 = u2) (t4 : signedN l u2 6 = y3) (t5 : signedS l u2 6 = u3) :
  Calls Tryz.prog 31 #[.pointer (some ⟨g, 0, none⟩), .pointer (some ⟨fb, 0, none⟩)] w fun ev w' => ev = .returned (.tuple #[]) ∧ Fx w w' base m g r0 fb A c l u3 ∧ Fb w' fb #[.int .i64 3, .int .i64 x1, .int .i64 x2, .int .i64 0, .int .i64 0, .int .i64 x5, .bool (y1 == 1), .int .i64 y2, .int .i64 y3, .slice none 0 0, .int .i64 0, .int .i64 0, .int .i64 0, .slice none 0 0] := by
 have HX0 := Aside0.mk (Fx.same H h1 h2)
 have HB0 := Aside0.mk hfb
 have HYS := Aside0.mk hb
 clear hfb hb
 go_enter Tryz.func31, Tryz.ntmps31
 go_wp2_with fail
 have W_ := small_walk 0 5 _ HX0.out.fs hl HYS.out
 rw [q1_0, q1_1] at W_
 refine W_.mono ?_
 rintro e w1 ⟨rfl, hF⟩
 have P_ := Fx.call HX0.out HB0.out hF
 have HX1 := Aside0.mk P_.1
 have HB1 := Aside0.mk P_.2
 clear hF P_ W_
 go_wp2_with fail
 have W_ := small_walk 0 11 _ HX1.out.fs hl HYS.out
 rw [q2_0, q2_1] at W_
 refine W_.mono ?_
 rintro e w2 ⟨rfl, hF⟩
 have P_ := Fx.call HX1.out HB1.out hF
 have HX2 := Aside0.mk P_.1
 have HB2 := Aside0.mk P_.2
 clear hF P_ W_
 have y1 := (blk_cell HB2.out 1).trans rfl
 have z1 := blk_frozen HB2.out 1
 have y2 := (blk_cell HB2.out 2).trans rfl
 have z2 := blk_frozen HB2.out 2
 have y0 := (blk_cell HB2.out 0).trans rfl
 have z0 := blk_frozen HB2.out 0
 have P_ := Fx.set HX2.out HB2.out 1 (.int .i64 x1)
 have HX3 := Aside0.mk P_.1
 have HB3 : Aside0 (Fb _ fb #[.int .i64 3, .int .i64 x1, .int .i64 0, .int .i64 0, .int .i64 0, .int .i64 0, .bool false, .int .i64 0, .int .i64 0, .slice none 0 0, .int .i64 0, .int .i64 0, .int .i64 0, .slice none 0 0]) := Aside0.mk P_.2
 clear P_
 have P_ := Fx.set HX3.out HB3.out 2 (.int .i64 x2)
 have HX4 := Aside0.mk P_.1
 have HB4 : Aside0 (Fb _ fb #[.int .i64 3, .int .i64 x1, .int .i64 x2, .int .i64 0, .int .i64 0, .int .i64 0, .bool false, .int .i64 0, .int .i64 0, .slice none 0 0, .int .i64 0, .int .i64 0, .int .i64 0, .slice none 0 0]) := Aside0.mk P_.2
 clear P_
 have yk := (blk_cell HB4.out 0).trans rfl
 go_wp2_with fail
 clear y1 z1 y2 z2 y0 z0
 have W_ := small_walk 0 9 _ HX4.out.fs hl HYS.out
 rw [q5_0, q5_1] at W_
 refine W_.mono ?_
 rintro e w3 ⟨rfl, hF⟩
 have P_ := Fx.call HX4.out HB4.out hF
 have HX5 := Aside0.mk P_.1
 have HB5 := Aside0.mk P_.2
 clear hF P_ W_
 have y5 := (blk_cell HB5.out 5).trans rfl
 have z5 := blk_frozen HB5.out 5
 have P_ := Fx.set HX5.out HB5.out 5 (.int .i64 x5)
 have HX6 := Aside0.mk P_.1
 have HB6 : Aside0 (Fb _ fb #[.int .i64 3, .int .i64 x1, .int .i64 x2, .int .i64 0, .int .i64 0, .int .i64 x5, .bool false, .int .i64 0, .int .i64 0, .slice none 0 0, .int .i64 0, .int .i64 0, .int .i64 0, .slice none 0 0]) := Aside0.mk P_.2
 clear P_
 go_wp2_with fail
 clear y5 z5
 refine (linked3 _ x1 x2 x5 HX6.out.fs HX6.out.gf HX6.out.fm HB6.out hl HYS.out t0 t1 t2 t3 t4 t5).mono ?_
 rintro e w9 ⟨rfl, hX, hF⟩
 have HX9 := Aside0.mk (HX6.out.then_ hX)
 have HB9 := Aside0.mk hF
 clear hX hF
 go_wp2_with fail
 go_end0
 exact ⟨rfl, HX9.out, HB9.out⟩
set_option maxHeartbeats 4000000 in
theorem fields4 (w : World) {x1 x2 x5 : Int} {L : List Int} {s1_ s2_ s5_ u1 : St} (H : Fs w base m g r0 A c l s) (h1 : g < fb) (h2 : fb < m) (hfb : Fb w fb #[.int .i64 4, .int .i64 0, .int .i64 0, .int .i64 0, .int .i64 0, .int .i64 0, .bool false, .int .i64 0, .int .i64 0, .slice none 0 0, .int .i64 0, .int .i64 0, .int .i64 0, .slice none 0 0]) (hl : l.length ≤ 1000000) (hb : Bys l) (q1_0 : plainN l s 1 = x1) (q1_1 : plainS l s 1 0 5 = s1_) (q2_0 : plainN l s1_ 1 = x2) (q2_1 : plainS l s1_ 1 0 11 = s2_) (q5_0 : plainN l s2_ 1 = x5) (q5_1 : plainS l s2_ 1 0 9 = s5_) (t0 : agesF l s5_ = (L, u1)) :
  Calls Tryz.prog 31 #[.pointer (some ⟨g, 0, none⟩), .pointer (some ⟨fb, 0, none⟩)] w fun ev w' => ev = .returned (.tuple #[]) ∧ Fx w w' base m g r0 fb A c l u1 ∧ ∃ v, Fb w' fb #[.int .i64 4, .int .i64 x1, .int .i64 x2, .int .i64 0, .int .i64 0, .int .i64 x5, .bool false, .int .i64 0, .int .i64 0, v, .int .i64 0, .int .i64 0, .int .i64 0, .slice none 0 0] ∧ (Kd.int .i64).R 3 w' m (fun _ => True) v L := by
 have HX0 := Aside0.mk (Fx.same H h1 h2)
 have HB0 := Aside0.mk hfb
 have HYS := Aside0.mk hb
 clear hfb hb
 go_enter Tryz.func31, Tryz.ntmps31
 go_wp2_with fail
 have W_ := small_walk 0 5 _ HX0.out.fs hl HYS.out
 rw [q1_0, q1_1] at W_
 refine W_.mono ?_
 rintro e w1 ⟨rfl, hF⟩
 have P_ := Fx.call HX0.out HB0.out hF
 have HX1 := Aside0.mk P_.1
 have HB1 := Aside0.mk P_.2
 clear hF P_ W_
 go_wp2_with fail
 have W_ := small_walk 0 11 _ HX1.out.fs hl HYS.out
 rw [q2_0, q2_1] at W_
 refine W_.mono ?_
 rintro e w2 ⟨rfl, hF⟩
 have P_ := Fx.call HX1.out HB1.out hF
 have HX2 := Aside0.mk P_.1
 have HB2 := Aside0.mk P_.2
 clear hF P_ W_
 have y1 := (blk_cell HB2.out 1).trans rfl
 have z1 := blk_frozen HB2.out 1
 have y2 := (blk_cell HB2.out 2).trans rfl
 have z2 := blk_frozen HB2.out 2
 have y0 := (blk_cell HB2.out 0).trans rfl
 have z0 := blk_frozen HB2.out 0
 have P_ := Fx.set HX2.out HB2.out 1 (.int .i64 x1)
 have HX3 := Aside0.mk P_.1
 have HB3 : Aside0 (Fb _ fb #[.int .i64 4, .int .i64 x1, .int .i64 0, .int .i64 0, .int .i64 0, .int .i64 0, .bool false, .int .i64 0, .int .i64 0, .slice none 0 0, .int .i64 0, .int .i64 0, .int .i64 0, .slice none 0 0]) := Aside0.mk P_.2
 clear P_
 have P_ := Fx.set HX3.out HB3.out 2 (.int .i64 x2)
 have HX4 := Aside0.mk P_.1
 have HB4 : Aside0 (Fb _ fb #[.int .i64 4, .int .i64 x1, .int .i64 x2, .int .i64 0, .int .i64 0, .int .i64 0, .bool false, .int .i64 0, .int .i64 0, .slice none 0 0, .int .i64 0, .int .i64 0, .int .i64 0, .slice none 0 0]) := Aside0.mk P_.2
 clear P_
 have yk := (blk_cell HB4.out 0).trans rfl
 go_wp2_with fail
 clear y1 z1 y2 z2 y0 z0
 have W_ := small_walk 0 9 _ HX4.out.fs hl HYS.out
 rw [q5_0, q5_1] at W_
 refine W_.mono ?_
 rintro e w3 ⟨rfl, hF⟩
 have P_ := Fx.call HX4.out HB4.out hF
 have HX5 := Aside0.mk P_.1
 have HB5 := Aside0.mk P_.2
 clear hF P_ W_
 have y5 := (blk_cell HB5.out 5).trans rfl
 have z5 := blk_frozen HB5.out 5
 have P_ := Fx.set HX5.out HB5.out 5 (.int .i64 x5)
 have HX6 := Aside0.mk P_.1
 have HB6 : Aside0 (Fb _ fb #[.int .i64 4, .int .i64 x1, .int .i64 x2, .int .i64 0, .int .i64 0, .int .i64 x5, .bool false, .int .i64 0, .int .i64 0, .slice none 0 0, .int .i64 0, .int .i64 0, .int .i64 0, .slice none 0 0]) := Aside0.mk P_.2
 clear P_
 go_wp2_with fail
 clear y5 z5
 refine (linked4 _ x1 x2 x5 HX6.out.fs HX6.out.gf HX6.out.fm HB6.out hl HYS.out t0).mono ?_
 rintro e w9 ⟨rfl, hX, v, hF, hR⟩
 have HX9 := Aside0.mk (HX6.out.then_ hX)
 have HB9 := Aside0.mk hF
 have HR9 := Aside0.mk hR
 clear hX hF hR
 go_wp2_with fail
 go_end0
 exact ⟨rfl, HX9.out, v, HB9.out, HR9.out⟩
set_option maxHeartbeats 4000000 in
theorem fields5 (w : World) {x1 x2 x5 y1 y2 y3 : Int} {L : List Int} {s1_ s2_ s5_ u1 u2 u3 u4 : St} (H : Fs w base m g r0 A c l s) (h1 : g < fb) (h2 : fb < m) (hfb : Fb w fb #[.int .i64 5, .int .i64 0, .int .i64 0, .int .i64 0, .int .i64 0, .int .i64 0, .bool false, .int .i64 0, .int .i64 0, .slice none 0 0, .int .i64 0, .int .i64 0, .int .i64 0, .slice none 0 0]) (hl : l.length ≤ 1000000) (hb : Bys l) (q1_0 : plainN l s 1 = x1) (q1_1 : plainS l s 1 0 5 = s1_) (q2_0 : plainN l s1_ 1 = x2) (q2_1 : plainS l s1_ 1 0 11 = s2_) (q5_0 : plainN l s2_ 1 = x5) (q5_1 : plainS l s2_ 1 0 9 = s5_) (t0 : plainN l s5_ 1 = y1) (t1 : plainS l s5_ 1 0 5 = u1) (t2 : plainN l u1 1 = y2) (t3 : plainS l u1 1 0 5 = u2) (t4 : plainN l u2 4 = y3) (t5 : plainS l u2 4 1 2147483648 = u3) (t6 : bodyF l u3 = (L, u4)) :
  Calls Tryz.prog 31 #[.pointer (some ⟨g, 0, none⟩), .pointer (some ⟨fb, 0, none⟩)] w fun ev w' => ev = .returned (.tuple #[]) ∧ Fx w w' base m g r0 fb A c l u4 ∧ ∃ v, Fb w' fb #[.int .i64 5, .int .i64 x1, .int .i64 x2, .int .i64 0, .int .i64 0, .int .i64 x5, .bool false, .int .i64 0, .int .i64 0, .slice none 0 0, .int .i64 y1, .int .i64 y2, .int .i64 y3, v] ∧ (Kd.int .u8).R 5 w' m (fun _ => True) v L := by
 have HX0 := Aside0.mk (Fx.same H h1 h2)
 have HB0 := Aside0.mk hfb
 have HYS := Aside0.mk hb
 clear hfb hb
 go_enter Tryz.func31, Tryz.ntmps31
 go_wp2_with fail
 have W_ := small_walk 0 5 _ HX0.out.fs hl HYS.out
 rw [q1_0, q1_1] at W_
 refine W_.mono ?_
 rintro e w1 ⟨rfl, hF⟩
 have P_ := Fx.call HX0.out HB0.out hF
 have HX1 := Aside0.mk P_.1
 have HB1 := Aside0.mk P_.2
 clear hF P_ W_
 go_wp2_with fail
 have W_ := small_walk 0 11 _ HX1.out.fs hl HYS.out
 rw [q2_0, q2_1] at W_
 refine W_.mono ?_
 rintro e w2 ⟨rfl, hF⟩
 have P_ := Fx.call HX1.out HB1.out hF
 have HX2 := Aside0.mk P_.1
 have HB2 := Aside0.mk P_.2
 clear hF P_ W_
 have y1 := (blk_cell HB2.out 1).trans rfl
 have z1 := blk_frozen HB2.out 1
 have y2 := (blk_cell HB2.out 2).trans rfl
 have z2 := blk_frozen HB2.out 2
 have y0 := (blk_cell HB2.out 0).trans rfl
 have z0 := blk_frozen HB2.out 0
 have P_ := Fx.set HX2.out HB2.out 1 (.int .i64 x1)
 have HX3 := Aside0.mk P_.1
 have HB3 : Aside0 (Fb _ fb #[.int .i64 5, .int .i64 x1, .int .i64 0, .int .i64 0, .int .i64 0, .int .i64 0, .bool false, .int .i64 0, .int .i64 0, .slice none 0 0, .int .i64 0, .int .i64 0, .int .i64 0, .slice none 0 0]) := Aside0.mk P_.2
 clear P_
 have P_ := Fx.set HX3.out HB3.out 2 (.int .i64 x2)
 have HX4 := Aside0.mk P_.1
 have HB4 : Aside0 (Fb _ fb #[.int .i64 5, .int .i64 x1, .int .i64 x2, .int .i64 0, .int .i64 0, .int .i64 0, .bool false, .int .i64 0, .int .i64 0, .slice none 0 0, .int .i64 0, .int .i64 0, .int .i64 0, .slice none 0 0]) := Aside0.mk P_.2
 clear P_
 have yk := (blk_cell HB4.out 0).trans rfl
 go_wp2_with fail
 clear y1 z1 y2 z2 y0 z0
 have W_ := small_walk 0 9 _ HX4.out.fs hl HYS.out
 rw [q5_0, q5_1] at W_
 refine W_.mono ?_
 rintro e w3 ⟨rfl, hF⟩
 have P_ := Fx.call HX4.out HB4.out hF
 have HX5 := Aside0.mk P_.1
 have HB5 := Aside0.mk P_.2
 clear hF P_ W_
 have y5 := (blk_cell HB5.out 5).trans rfl
 have z5 := blk_frozen HB5.out 5
 have P_ := Fx.set HX5.out HB5.out 5 (.int .i64 x5)
 have HX6 := Aside0.mk P_.1
 have HB6 : Aside0 (Fb _ fb #[.int .i64 5, .int .i64 x1, .int .i64 x2, .int .i64 0, .int .i64 0, .int .i64 x5, .bool false, .int .i64 0, .int .i64 0, .slice none 0 0, .int .i64 0, .int .i64 0, .int .i64 0, .slice none 0 0]) := Aside0.mk P_.2
 clear P_
 go_wp2_with fail
 clear y5 z5
 refine (linked5 _ x1 x2 x5 HX6.out.fs HX6.out.gf HX6.out.fm HB6.out hl HYS.out t0 t1 t2 t3 t4 t5 t6).mono ?_
 rintro e w9 ⟨rfl, hX, v, hF, hR⟩
 have HX9 := Aside0.mk (HX6.out.then_ hX)
 have HB9 := Aside0.mk hF
 have HR9 := Aside0.mk hR
 clear hX hF hR
 go_wp2_with fail
 go_end0
 exact ⟨rfl, HX9.out, v, HB9.out, HR9.out⟩
structure Fr where
 k : Int
 p : Int
 n : Int
 wt : Int
 msk : Int
 lk : Int
 fl : Bool
 cy : Int
 of_ : Int
 ag : List Int
 f1 : Int
 f2 : Int
 sq : Int
 bd : List Int
def Fr.zero : Fr := ⟨0, 0, 0, 0, 0, 0, false, 0, 0, [], 0, 0, 0, []⟩
def fieldsF (l : List Int) (s : St) (k : Int) : Fr × St :=
 let p := plainN l s 1
 let s1 := plainS l s 1 0 5
 let n := plainN l s1 1
 let s2 := plainS l s1 1 0 11
 if k = 1 then (⟨1, p, n, plainN l s2 2, 0, 0, false, 0, 0, [], 0, 0, 0, []⟩, plainS l s2 2 0 60000)
 else if k = 2 then
  let s3 := plainS l s2 6 0 1099511627776
  let s4 := plainS l s3 2 0 4095
  (⟨2, p, n, 0, plainN l s3 2, 0, false, plainN l s2 6, 0, (agesF l s4).1, 0, 0, 0, []⟩, (agesF l s4).2)
 else
  let lk := plainN l s2 1
  let s3 := plainS l s2 1 0 9
  if k = 3 then
   let s4 := plainS l s3 1 0 1
   let s5 := plainS l s4 6 0 1099511627776
   (⟨3, p, n, 0, 0, lk, plainN l s3 1 == 1, plainN l s4 6, signedN l s5 6, [], 0, 0, 0, []⟩, signedS l s5 6)
  else if k = 4 then (⟨4, p, n, 0, 0, lk, false, 0, 0, (agesF l s3).1, 0, 0, 0, []⟩, (agesF l s3).2)
  else
   let s4 := plainS l s3 1 0 5
   let s5 := plainS l s4 1 0 5
   let s6 := plainS l s5 4 1 2147483648
   (⟨5, p, n, 0, 0, lk, false, 0, 0, [], plainN l s3 1, plainN l s4 1, plainN l s5 4, (bodyF l s6).1⟩, (bodyF l s6).2)
theorem fields_walk (k : Int) (w : World) (H : Fs w base m g r0 A c l s) (h1 : g < fb) (h2 : fb < m) (hfb : Fb w fb #[.int .i64 k, .int .i64 0, .int .i64 0, .int .i64 0, .int .i64 0, .int .i64 0, .bool false, .int .i64 0, .int .i64 0, .slice none 0 0, .int .i64 0, .int .i64 0, .int .i64 0, .slice none 0 0]) (hl : l.length ≤ 1000000) (hb : Bys l) (hk : 1 ≤ k ∧ k ≤ 5)
  {p n wt mk lk : Int} {fl : Bool} {cy of_ : Int} {ag : List Int} {f1 f2 sq : Int} {bd : List Int} {s' : St} {k' : Int} (hf : fieldsF l s k = (⟨k', p, n, wt, mk, lk, fl, cy, of_, ag, f1, f2, sq, bd⟩, s')) :
  Calls Tryz.prog 31 #[.pointer (some ⟨g, 0, none⟩), .pointer (some ⟨fb, 0, none⟩)] w fun ev w' => ev = .returned (.tuple #[]) ∧ Fx w w' base m g r0 fb A c l s' ∧ ∃ v9 v13, Fb w' fb #[.int .i64 k', .int .i64 p, .int .i64 n, .int .i64 wt, .int .i64 mk, .int .i64 lk, .bool fl, .int .i64 cy, .int .i64 of_, v9, .int .i64 f1, .int .i64 f2, .int .i64 sq, v13] ∧ (Kd.int .i64).R 3 w' m (fun _ => True) v9 ag ∧ (Kd.int .u8).R 5 w' m (fun _ => True) v13 bd := by
 rcases (show k = 1 ∨ k = 2 ∨ k = 3 ∨ k = 4 ∨ k = 5 by omega) with rfl | rfl | rfl | rfl | rfl
 ·unfold fieldsF at hf
  simp only [if_true, Int.reduceEq, if_false, reduceIte] at hf
  simp only [Prod.mk.injEq, Fr.mk.injEq] at hf
  obtain ⟨⟨rfl, rfl, rfl, rfl, rfl, rfl, rfl, rfl, rfl, rfl, rfl, rfl, rfl, rfl⟩, rfl⟩ := hf
  refine (fields1 w H h1 h2 hfb hl hb rfl rfl rfl rfl rfl rfl).mono ?_
  rintro e w' ⟨h1, h2, h3⟩
  exact ⟨h1, h2, _, _, h3, Kd.R_nil _ _ _ _ _, Kd.R_nil _ _ _ _ _⟩
 ·unfold fieldsF at hf
  simp only [if_true, Int.reduceEq, if_false, reduceIte] at hf
  simp only [Prod.mk.injEq, Fr.mk.injEq] at hf
  obtain ⟨⟨rfl, rfl, rfl, rfl, rfl, rfl, rfl, rfl, rfl, rfl, rfl, rfl, rfl, rfl⟩, rfl⟩ := hf
  refine (fields2 w H h1 h2 hfb hl hb rfl rfl rfl rfl rfl rfl rfl rfl rfl).mono ?_
  rintro e w' ⟨h1, h2, v, h3, h4⟩
  exact ⟨h1, h2, v, _, h3, h4, Kd.R_nil _ _ _ _ _⟩
 ·unfold fieldsF at hf
  simp only [if_true, Int.reduceEq, if_false, reduceIte] at hf
  simp only [Prod.mk.injEq, Fr.mk.injEq] at hf
  obtain ⟨⟨rfl, rfl, rfl, rfl, rfl, rfl, rfl, rfl, rfl, rfl, rfl, rfl, rfl, rfl⟩, rfl⟩ := hf
  refine (fields3 w H h1 h2 hfb hl hb rfl rfl rfl rfl rfl rfl rfl rfl rfl rfl rfl rfl).mono ?_
  rintro e w' ⟨h1, h2, h3⟩
  exact ⟨h1, h2, _, _, h3, Kd.R_nil _ _ _ _ _, Kd.R_nil _ _ _ _ _⟩
 ·unfold fieldsF at hf
  simp only [if_true, Int.reduceEq, if_false, reduceIte] at hf
  simp only [Prod.mk.injEq, Fr.mk.injEq] at hf
  obtain ⟨⟨rfl, rfl, rfl, rfl, rfl, rfl, rfl, rfl, rfl, rfl, rfl, rfl, rfl, rfl⟩, rfl⟩ := hf
  refine (fields4 w H h1 h2 hfb hl hb rfl rfl rfl rfl rfl rfl rfl).mono ?_
  rintro e w' ⟨h1, h2, v, h3, h4⟩
  exact ⟨h1, h2, v, _, h3, h4, Kd.R_nil _ _ _ _ _⟩
 ·unfold fieldsF at hf
  simp only [if_true, Int.reduceEq, if_false, reduceIte] at hf
  simp only [Prod.mk.injEq, Fr.mk.injEq] at hf
  obtain ⟨⟨rfl, rfl, rfl, rfl, rfl, rfl, rfl, rfl, rfl, rfl, rfl, rfl, rfl, rfl⟩, rfl⟩ := hf
  refine (fields5 w H h1 h2 hfb hl hb rfl rfl rfl rfl rfl rfl rfl rfl rfl rfl rfl rfl rfl).mono ?_
  rintro e w' ⟨h1, h2, v, h3, h4⟩
  exact ⟨h1, h2, _, v, h3, Kd.R_nil _ _ _ _ _, h4⟩
end Go.Proofs.YtaaifdclojkdmaaGreatDoor.MFr
