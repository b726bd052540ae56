/- Texts of this claim, laid together by a program (wip/e/merge2.py): HPs. -/
import Derived.Test.YtaaifdclojkdmaaGreatDoorZFz6
import Derived.Test.YtaaifdclojkdmaaGreatDoorZFz7
import Derived.Test.YtaaifdclojkdmaaGreatDoorZFz10
set_option linter.unusedVariables false
set_option linter.unusedSimpArgs false
set_option maxRecDepth 100000
namespace Go.Proofs.YtaaifdclojkdmaaGreatDoor.MFr
open Go.RowKit Go.Proofs.YtaaifdclojkdmaaGreatDoorW.PrintWords Go.Proofs.YtaaifdclojkdmaaGreatDoorW.PrintLast Go.Proofs.YtaaifdclojkdmaaGreatDoorW.PrintMore Go.Proofs.YtaaifdclojkdmaaGreatDoor.Wire Go.Proofs.YtaaifdclojkdmaaGreatDoor.Evl
variable {base m g r0 fb : Nat} {A : Option Addr} {c : Nat} {l : List Int} {s s1 s2 : St}
theorem setCell_same {w : World} {g : Nat} {t : TypeId} {cs : Array Value} {i : Nat} {u : Value} (h : w.heap[g]? = some (.cells cs t (0, 0))) (e : cs.setIfInBounds i u = cs) : w.setCell ⟨g, i, none⟩ u = w := by
 obtain ⟨hlt, hv⟩ := Array.getElem?_eq_some_iff.1 h
 have hh : (w.setCell ⟨g, i, none⟩ u).heap = w.heap := by
  apply Array.ext_getElem?
  intro k
  by_cases hk : k = g
  ·subst hk
   rw [blk_set h i u, e, h]
  ·exact Below.heap_setCell w ⟨g, i, none⟩ u k hk
 have hw : w.setCell ⟨g, i, none⟩ u = { w with heap := (w.setCell ⟨g, i, none⟩ u).heap } := rfl
 rw [hw, hh]
theorem first_blk (w : World) (a b : Obj) : ((w.alloc a).alloc b).heap[w.heap.size]? = some a := by
 rw [Below.heap_alloc _ _ _ (by simp)]; exact heap_alloc_new w a
theorem bareZ (k : Int) (w : World) (h : 1 ≤ k ∧ k ≤ 5) : Calls Tryz.prog 28 #[.agg #[.int .i64 k, .int .i64 0, .int .i64 0, .int .i64 0, .int .i64 0, .int .i64 0, .bool false, .int .i64 0, .int .i64 0, .slice none 0 0, .int .i64 0, .int .i64 0, .int .i64 0, .slice none 0 0]] w fun e w' => e = .returned (.tuple #[.agg #[.int .i64 k, .int .i64 0, .int .i64 0, .int .i64 0, .int .i64 0, .int .i64 0, .bool false, .int .i64 0, .int .i64 0, .slice none 0 0, .int .i64 0, .int .i64 0, .int .i64 0, .slice none 0 0], .bool true]) ∧ Below w.heap.size w w' := by
 rcases (show k = 1 ∨ k = 2 ∨ k = 3 ∨ k = 4 ∨ k = 5 by omega) with rfl | rfl | rfl | rfl | rfl
 ·exact bare1 0 0 0 0 0 false 0 0 0 0 0 none 0 0 none 0 0 w
 ·exact bare2 0 0 0 0 0 false 0 0 0 0 0 none 0 0 none 0 0 w
 ·exact bare3 0 0 0 0 0 false 0 0 0 0 0 none 0 0 none 0 0 w
 ·exact bare4 0 0 0 0 0 false 0 0 0 0 0 none 0 0 none 0 0 w
 ·exact bare5 0 0 0 0 0 false 0 0 0 0 0 none 0 0 none 0 0 w
theorem blk_set14 {w : World} {g : Nat} {t : TypeId} {x0 x1 x2 x3 x4 x5 x6 x7 x8 x9 x10 x11 x12 x13 : Value} (h : w.heap[g]? = some (.cells #[x0, x1, x2, x3, x4, x5, x6, x7, x8, x9, x10, x11, x12, x13] t (0, 0))) (y0 y1 y2 y3 y4 y5 y6 y7 y8 y9 y10 y11 y12 y13 : Value) :
  ((((((((((((((w.setCell ⟨g, 0, none⟩ y0).setCell ⟨g, 1, none⟩ y1).setCell ⟨g, 2, none⟩ y2).setCell ⟨g, 3, none⟩ y3).setCell ⟨g, 4, none⟩ y4).setCell ⟨g, 5, none⟩ y5).setCell ⟨g, 6, none⟩ y6).setCell ⟨g, 7, none⟩ y7).setCell ⟨g, 8, none⟩ y8).setCell ⟨g, 9, none⟩ y9).setCell ⟨g, 10, none⟩ y10).setCell ⟨g, 11, none⟩ y11).setCell ⟨g, 12, none⟩ y12).setCell ⟨g, 13, none⟩ y13).heap[g]? = some (.cells #[y0, y1, y2, y3, y4, y5, y6, y7, y8, y9, y10, y11, y12, y13] t (0, 0)) :=
 (blk_put (cs' := #[y0, y1, y2, y3, y4, y5, y6, y7, y8, y9, y10, y11, y12, y13]) (blk_put (cs' := #[y0, y1, y2, y3, y4, y5, y6, y7, y8, y9, y10, y11, y12, x13]) (blk_put (cs' := #[y0, y1, y2, y3, y4, y5, y6, y7, y8, y9, y10, y11, x12, x13]) (blk_put (cs' := #[y0, y1, y2, y3, y4, y5, y6, y7, y8, y9, y10, x11, x12, x13]) (blk_put (cs' := #[y0, y1, y2, y3, y4, y5, y6, y7, y8, y9, x10, x11, x12, x13]) (blk_put (cs' := #[y0, y1, y2, y3, y4, y5, y6, y7, y8, x9, x10, x11, x12, x13]) (blk_put (cs' := #[y0, y1, y2, y3, y4, y5, y6, y7, x8, x9, x10, x11, x12, x13]) (blk_put (cs' := #[y0, y1, y2, y3, y4, y5, y6, x7, x8, x9, x10, x11, x12, x13]) (blk_put (cs' := #[y0, y1, y2, y3, y4, y5, x6, x7, x8, x9, x10, x11, x12, x13]) (blk_put (cs' := #[y0, y1, y2, y3, y4, x5, x6, x7, x8, x9, x10, x11, x12, x13]) (blk_put (cs' := #[y0, y1, y2, y3, x4, x5, x6, x7, x8, x9, x10, x11, x12, x13]) (blk_put (cs' := #[y0, y1, y2, x3, x4, x5, x6, x7, x8, x9, x10, x11, x12, x13]) (blk_put (cs' := #[y0, y1, x2, x3, x4, x5, x6, x7, x8, x9, x10, x11, x12, x13]) (blk_put (cs' := #[y0, x1, x2, x3, x4, x5, x6, x7, x8, x9, x10, x11, x12, x13]) h 0 y0 rfl) 1 y1 rfl) 2 y2 rfl) 3 y3 rfl) 4 y4 rfl) 5 y5 rfl) 6 y6 rfl) 7 y7 rfl) 8 y8 rfl) 9 y9 rfl) 10 y10 rfl) 11 y11 rfl) 12 y12 rfl) 13 y13 rfl)
theorem R_set14 {α : Type} {d : Kd α} {e bs b : Nat} {ok : Nat → Prop} {w : World} {v : Value} {xs : List α} (h : d.R e w bs ok v xs) (hb : ∀ q, ok q → q ≠ b) (y0 y1 y2 y3 y4 y5 y6 y7 y8 y9 y10 y11 y12 y13 : Value) :
  d.R e ((((((((((((((w.setCell ⟨b, 0, none⟩ y0).setCell ⟨b, 1, none⟩ y1).setCell ⟨b, 2, none⟩ y2).setCell ⟨b, 3, none⟩ y3).setCell ⟨b, 4, none⟩ y4).setCell ⟨b, 5, none⟩ y5).setCell ⟨b, 6, none⟩ y6).setCell ⟨b, 7, none⟩ y7).setCell ⟨b, 8, none⟩ y8).setCell ⟨b, 9, none⟩ y9).setCell ⟨b, 10, none⟩ y10).setCell ⟨b, 11, none⟩ y11).setCell ⟨b, 12, none⟩ y12).setCell ⟨b, 13, none⟩ y13) bs ok v xs :=
 (Kd.R_far (p := ⟨b, 13, none⟩) (Kd.R_far (p := ⟨b, 12, none⟩) (Kd.R_far (p := ⟨b, 11, none⟩) (Kd.R_far (p := ⟨b, 10, none⟩) (Kd.R_far (p := ⟨b, 9, none⟩) (Kd.R_far (p := ⟨b, 8, none⟩) (Kd.R_far (p := ⟨b, 7, none⟩) (Kd.R_far (p := ⟨b, 6, none⟩) (Kd.R_far (p := ⟨b, 5, none⟩) (Kd.R_far (p := ⟨b, 4, none⟩) (Kd.R_far (p := ⟨b, 3, none⟩) (Kd.R_far (p := ⟨b, 2, none⟩) (Kd.R_far (p := ⟨b, 1, none⟩) (Kd.R_far (p := ⟨b, 0, none⟩) h hb y0) hb y1) hb y2) hb y3) hb y4) hb y5) hb y6) hb y7) hb y8) hb y9) hb y10) hb y11) hb y12) hb y13)
theorem below_set14 {B b : Nat} {w0 w : World} (h : Below B w0 w) (hb : B ≤ b) (y0 y1 y2 y3 y4 y5 y6 y7 y8 y9 y10 y11 y12 y13 : Value) : Below B w0 ((((((((((((((w.setCell ⟨b, 0, none⟩ y0).setCell ⟨b, 1, none⟩ y1).setCell ⟨b, 2, none⟩ y2).setCell ⟨b, 3, none⟩ y3).setCell ⟨b, 4, none⟩ y4).setCell ⟨b, 5, none⟩ y5).setCell ⟨b, 6, none⟩ y6).setCell ⟨b, 7, none⟩ y7).setCell ⟨b, 8, none⟩ y8).setCell ⟨b, 9, none⟩ y9).setCell ⟨b, 10, none⟩ y10).setCell ⟨b, 11, none⟩ y11).setCell ⟨b, 12, none⟩ y12).setCell ⟨b, 13, none⟩ y13) :=
 (Below.setCell (p := ⟨b, 13, none⟩) (Below.setCell (p := ⟨b, 12, none⟩) (Below.setCell (p := ⟨b, 11, none⟩) (Below.setCell (p := ⟨b, 10, none⟩) (Below.setCell (p := ⟨b, 9, none⟩) (Below.setCell (p := ⟨b, 8, none⟩) (Below.setCell (p := ⟨b, 7, none⟩) (Below.setCell (p := ⟨b, 6, none⟩) (Below.setCell (p := ⟨b, 5, none⟩) (Below.setCell (p := ⟨b, 4, none⟩) (Below.setCell (p := ⟨b, 3, none⟩) (Below.setCell (p := ⟨b, 2, none⟩) (Below.setCell (p := ⟨b, 1, none⟩) (Below.setCell (p := ⟨b, 0, none⟩) h hb y0) hb y1) hb y2) hb y3) hb y4) hb y5) hb y6) hb y7) hb y8) hb y9) hb y10) hb y11) hb y12) hb y13)
theorem Kd_keep {w : World} {g : Nat} {ob o1 : Obj} (h : w.heap[g]? = some ob) : (w.alloc o1).heap[g]? = some ob := (Below.heap_alloc w o1 g (blk_lt h)).trans h
set_option maxHeartbeats 4000000 in
theorem parse_short (A0 : Option Addr) (c0 : Nat) (l : List Int) (w : World) (hr : Kd.C (Kd.int .u8) w A0 l.length l) (hc : l.length ≤ c0) (h7 : l.length < 7) :
  Calls Tryz.prog 14 #[.slice A0 l.length c0] w fun e w' => ∃ ev, e = .returned (.tuple #[.agg #[.int .i64 0, .int .i64 0, .int .i64 0, .int .i64 0, .int .i64 0, .int .i64 0, .bool false, .int .i64 0, .int .i64 0, .slice none 0 0, .int .i64 0, .int .i64 0, .int .i64 0, .slice none 0 0], ev]) ∧ Er w' w.heap.size ev 2 0 ∧ Below w.heap.size w w' := by
 have hd : decide ((l.length : Int) < 7) = true := decide_eq_true (by omega)
 clear hr h7
 go_enter Tryz.func14, Tryz.ntmps14
 go_wp2
 refine bodyPost_ret (results_ct rfl _ _ w.heap.size 26 #[.int .i64 0, .int .i64 0, .int .i64 0, .int .i64 0, .int .i64 0, .int .i64 0, .bool false, .int .i64 0, .int .i64 0, .slice none 0 0, .int .i64 0, .int .i64 0, .int .i64 0, .slice none 0 0] (0, 0) _ rfl (first_blk w _ _) Tryz.underlying26 rfl (by kernel_rfl)) rfl ?_
 exact ⟨_, rfl, .inr ⟨by decide, _, Nat.le_succ _, rfl, by have := heap_alloc_new (w.alloc (.cells #[.int .i64 0, .int .i64 0, .int .i64 0, .int .i64 0, .int .i64 0, .int .i64 0, .bool false, .int .i64 0, .int .i64 0, .slice none 0 0, .int .i64 0, .int .i64 0, .int .i64 0, .slice none 0 0] 26)) (.cells #[.int .i64 0, .iface 66 (.int .i64 2)] 53); simpa using this⟩, by repeat (first | exact Below.refl _ _ | apply below_alloc)⟩
set_option maxHeartbeats 4000000 in
theorem parse_sum (A0 : Option Addr) (c0 : Nat) (l : List Int) (w : World) (hr : Kd.C (Kd.int .u8) w A0 l.length l) (hc : l.length ≤ c0) (h7 : 7 ≤ l.length) (hl : l.length ≤ 1000000) (ko : Nat) (x : List Int) (hO : sum_Open.f ko l = some (x, false)) :
  Calls Tryz.prog 14 #[.slice A0 l.length c0] w fun e w' => ∃ ev, e = .returned (.tuple #[.agg #[.int .i64 0, .int .i64 0, .int .i64 0, .int .i64 0, .int .i64 0, .int .i64 0, .bool false, .int .i64 0, .int .i64 0, .slice none 0 0, .int .i64 0, .int .i64 0, .int .i64 0, .slice none 0 0], ev]) ∧ Er w' w.heap.size ev 4 ((l.length : Int) - 4) ∧ Below w.heap.size w w' := by
 have hw : wrap64 ((l.length : Int) - 4) = (l.length : Int) - 4 := by unfold wrap64; omega
 have HR := Aside0.mk hr
 have HC := Aside0.mk hc
 have HL := Aside0.mk h7
 have hd : decide ((l.length : Int) < 7) = false := decide_eq_false (by omega)
 clear hr hc h7
 go_enter Tryz.func14, Tryz.ntmps14
 go_wp2_with fail
 have HB := Aside0.mk (below_alloc (Below.refl w.heap.size w) (.cells #[.int .i64 0, .int .i64 0, .int .i64 0, .int .i64 0, .int .i64 0, .int .i64 0, .bool false, .int .i64 0, .int .i64 0, .slice none 0 0, .int .i64 0, .int .i64 0, .int .i64 0, .slice none 0 0] 26))
 have HZ : Aside0 ((w.alloc (.cells #[.int .i64 0, .int .i64 0, .int .i64 0, .int .i64 0, .int .i64 0, .int .i64 0, .bool false, .int .i64 0, .int .i64 0, .slice none 0 0, .int .i64 0, .int .i64 0, .int .i64 0, .slice none 0 0] 26)).heap[w.heap.size]? = some (.cells #[.int .i64 0, .int .i64 0, .int .i64 0, .int .i64 0, .int .i64 0, .int .i64 0, .bool false, .int .i64 0, .int .i64 0, .slice none 0 0, .int .i64 0, .int .i64 0, .int .i64 0, .slice none 0 0] 26 (0, 0))) := ⟨heap_alloc_new _ _⟩
 generalize w.alloc (.cells #[.int .i64 0, .int .i64 0, .int .i64 0, .int .i64 0, .int .i64 0, .int .i64 0, .bool false, .int .i64 0, .int .i64 0, .slice none 0 0, .int .i64 0, .int .i64 0, .int .i64 0, .slice none 0 0] 26) = wa at *
 obtain ⟨b2, hb2⟩ : ∃ b2, b2 = w.heap.size := ⟨_, rfl⟩
 rw [← hb2]
 rw [← hb2] at HZ
 have HB2 := Aside0.mk hb2
 clear hb2
 refine (sum_Open.calls ko A0 c0 l _ false _ (Kd.C_below HR.out HB.out) HC.out hO).mono ?_
 rintro e w1 ⟨v, rfl, ho, hb⟩
 obtain ⟨A1, c1, rfl⟩ := Kd.R_slice ho
 have HO := Aside0.mk ho
 have HB1 := Aside0.mk (below_step HB.out hb)
 have HZ1 := Aside0.mk ((hb.block b2 (blk_lt HZ.out)).trans HZ.out)
 clear ho hb hO
 have zc0 : ∀ o0 : Obj, (w1.alloc o0).cell? ⟨b2, 0, none⟩ = some (.int .i64 0) := fun o0 => (blk_cell (Kd_keep HZ1.out) 0).trans rfl
 have zf0 : ∀ o0 : Obj, (w1.alloc o0).frozen? ⟨b2, 0, none⟩ = false := fun o0 => blk_frozen (Kd_keep HZ1.out) 0
 have zs0 : ∀ o0 : Obj, (w1.alloc o0).setCell ⟨b2, 0, none⟩ (.int .i64 0) = (w1.alloc o0) := fun o0 => setCell_same (Kd_keep HZ1.out) rfl
 have zc1 : ∀ o0 : Obj, (w1.alloc o0).cell? ⟨b2, 1, none⟩ = some (.int .i64 0) := fun o0 => (blk_cell (Kd_keep HZ1.out) 1).trans rfl
 have zf1 : ∀ o0 : Obj, (w1.alloc o0).frozen? ⟨b2, 1, none⟩ = false := fun o0 => blk_frozen (Kd_keep HZ1.out) 1
 have zs1 : ∀ o0 : Obj, (w1.alloc o0).setCell ⟨b2, 1, none⟩ (.int .i64 0) = (w1.alloc o0) := fun o0 => setCell_same (Kd_keep HZ1.out) rfl
 have zc2 : ∀ o0 : Obj, (w1.alloc o0).cell? ⟨b2, 2, none⟩ = some (.int .i64 0) := fun o0 => (blk_cell (Kd_keep HZ1.out) 2).trans rfl
 have zf2 : ∀ o0 : Obj, (w1.alloc o0).frozen? ⟨b2, 2, none⟩ = false := fun o0 => blk_frozen (Kd_keep HZ1.out) 2
 have zs2 : ∀ o0 : Obj, (w1.alloc o0).setCell ⟨b2, 2, none⟩ (.int .i64 0) = (w1.alloc o0) := fun o0 => setCell_same (Kd_keep HZ1.out) rfl
 have zc3 : ∀ o0 : Obj, (w1.alloc o0).cell? ⟨b2, 3, none⟩ = some (.int .i64 0) := fun o0 => (blk_cell (Kd_keep HZ1.out) 3).trans rfl
 have zf3 : ∀ o0 : Obj, (w1.alloc o0).frozen? ⟨b2, 3, none⟩ = false := fun o0 => blk_frozen (Kd_keep HZ1.out) 3
 have zs3 : ∀ o0 : Obj, (w1.alloc o0).setCell ⟨b2, 3, none⟩ (.int .i64 0) = (w1.alloc o0) := fun o0 => setCell_same (Kd_keep HZ1.out) rfl
 have zc4 : ∀ o0 : Obj, (w1.alloc o0).cell? ⟨b2, 4, none⟩ = some (.int .i64 0) := fun o0 => (blk_cell (Kd_keep HZ1.out) 4).trans rfl
 have zf4 : ∀ o0 : Obj, (w1.alloc o0).frozen? ⟨b2, 4, none⟩ = false := fun o0 => blk_frozen (Kd_keep HZ1.out) 4
 have zs4 : ∀ o0 : Obj, (w1.alloc o0).setCell ⟨b2, 4, none⟩ (.int .i64 0) = (w1.alloc o0) := fun o0 => setCell_same (Kd_keep HZ1.out) rfl
 have zc5 : ∀ o0 : Obj, (w1.alloc o0).cell? ⟨b2, 5, none⟩ = some (.int .i64 0) := fun o0 => (blk_cell (Kd_keep HZ1.out) 5).trans rfl
 have zf5 : ∀ o0 : Obj, (w1.alloc o0).frozen? ⟨b2, 5, none⟩ = false := fun o0 => blk_frozen (Kd_keep HZ1.out) 5
 have zs5 : ∀ o0 : Obj, (w1.alloc o0).setCell ⟨b2, 5, none⟩ (.int .i64 0) = (w1.alloc o0) := fun o0 => setCell_same (Kd_keep HZ1.out) rfl
 have zc6 : ∀ o0 : Obj, (w1.alloc o0).cell? ⟨b2, 6, none⟩ = some (.bool false) := fun o0 => (blk_cell (Kd_keep HZ1.out) 6).trans rfl
 have zf6 : ∀ o0 : Obj, (w1.alloc o0).frozen? ⟨b2, 6, none⟩ = false := fun o0 => blk_frozen (Kd_keep HZ1.out) 6
 have zs6 : ∀ o0 : Obj, (w1.alloc o0).setCell ⟨b2, 6, none⟩ (.bool false) = (w1.alloc o0) := fun o0 => setCell_same (Kd_keep HZ1.out) rfl
 have zc7 : ∀ o0 : Obj, (w1.alloc o0).cell? ⟨b2, 7, none⟩ = some (.int .i64 0) := fun o0 => (blk_cell (Kd_keep HZ1.out) 7).trans rfl
 have zf7 : ∀ o0 : Obj, (w1.alloc o0).frozen? ⟨b2, 7, none⟩ = false := fun o0 => blk_frozen (Kd_keep HZ1.out) 7
 have zs7 : ∀ o0 : Obj, (w1.alloc o0).setCell ⟨b2, 7, none⟩ (.int .i64 0) = (w1.alloc o0) := fun o0 => setCell_same (Kd_keep HZ1.out) rfl
 have zc8 : ∀ o0 : Obj, (w1.alloc o0).cell? ⟨b2, 8, none⟩ = some (.int .i64 0) := fun o0 => (blk_cell (Kd_keep HZ1.out) 8).trans rfl
 have zf8 : ∀ o0 : Obj, (w1.alloc o0).frozen? ⟨b2, 8, none⟩ = false := fun o0 => blk_frozen (Kd_keep HZ1.out) 8
 have zs8 : ∀ o0 : Obj, (w1.alloc o0).setCell ⟨b2, 8, none⟩ (.int .i64 0) = (w1.alloc o0) := fun o0 => setCell_same (Kd_keep HZ1.out) rfl
 have zc9 : ∀ o0 : Obj, (w1.alloc o0).cell? ⟨b2, 9, none⟩ = some (.slice none 0 0) := fun o0 => (blk_cell (Kd_keep HZ1.out) 9).trans rfl
 have zf9 : ∀ o0 : Obj, (w1.alloc o0).frozen? ⟨b2, 9, none⟩ = false := fun o0 => blk_frozen (Kd_keep HZ1.out) 9
 have zs9 : ∀ o0 : Obj, (w1.alloc o0).setCell ⟨b2, 9, none⟩ (.slice none 0 0) = (w1.alloc o0) := fun o0 => setCell_same (Kd_keep HZ1.out) rfl
 have zc10 : ∀ o0 : Obj, (w1.alloc o0).cell? ⟨b2, 10, none⟩ = some (.int .i64 0) := fun o0 => (blk_cell (Kd_keep HZ1.out) 10).trans rfl
 have zf10 : ∀ o0 : Obj, (w1.alloc o0).frozen? ⟨b2, 10, none⟩ = false := fun o0 => blk_frozen (Kd_keep HZ1.out) 10
 have zs10 : ∀ o0 : Obj, (w1.alloc o0).setCell ⟨b2, 10, none⟩ (.int .i64 0) = (w1.alloc o0) := fun o0 => setCell_same (Kd_keep HZ1.out) rfl
 have zc11 : ∀ o0 : Obj, (w1.alloc o0).cell? ⟨b2, 11, none⟩ = some (.int .i64 0) := fun o0 => (blk_cell (Kd_keep HZ1.out) 11).trans rfl
 have zf11 : ∀ o0 : Obj, (w1.alloc o0).frozen? ⟨b2, 11, none⟩ = false := fun o0 => blk_frozen (Kd_keep HZ1.out) 11
 have zs11 : ∀ o0 : Obj, (w1.alloc o0).setCell ⟨b2, 11, none⟩ (.int .i64 0) = (w1.alloc o0) := fun o0 => setCell_same (Kd_keep HZ1.out) rfl
 have zc12 : ∀ o0 : Obj, (w1.alloc o0).cell? ⟨b2, 12, none⟩ = some (.int .i64 0) := fun o0 => (blk_cell (Kd_keep HZ1.out) 12).trans rfl
 have zf12 : ∀ o0 : Obj, (w1.alloc o0).frozen? ⟨b2, 12, none⟩ = false := fun o0 => blk_frozen (Kd_keep HZ1.out) 12
 have zs12 : ∀ o0 : Obj, (w1.alloc o0).setCell ⟨b2, 12, none⟩ (.int .i64 0) = (w1.alloc o0) := fun o0 => setCell_same (Kd_keep HZ1.out) rfl
 have zc13 : ∀ o0 : Obj, (w1.alloc o0).cell? ⟨b2, 13, none⟩ = some (.slice none 0 0) := fun o0 => (blk_cell (Kd_keep HZ1.out) 13).trans rfl
 have zf13 : ∀ o0 : Obj, (w1.alloc o0).frozen? ⟨b2, 13, none⟩ = false := fun o0 => blk_frozen (Kd_keep HZ1.out) 13
 have zs13 : ∀ o0 : Obj, (w1.alloc o0).setCell ⟨b2, 13, none⟩ (.slice none 0 0) = (w1.alloc o0) := fun o0 => setCell_same (Kd_keep HZ1.out) rfl
 go_wp2_with fail
 refine bodyPost_ret (results_ct rfl _ _ b2 26 #[.int .i64 0, .int .i64 0, .int .i64 0, .int .i64 0, .int .i64 0, .int .i64 0, .bool false, .int .i64 0, .int .i64 0, .slice none 0 0, .int .i64 0, .int .i64 0, .int .i64 0, .slice none 0 0] (0, 0) _ rfl (Kd_keep HZ1.out) Tryz.underlying26 rfl (by kernel_rfl)) rfl ?_
 have hsz := HB1.out.size
 exact ⟨_, rfl, .inr ⟨by decide, _, hsz, rfl, heap_alloc_new w1 _⟩, below_alloc HB1.out _⟩
set_option maxHeartbeats 4000000 in
theorem parse_kind (A0 : Option Addr) (c0 : Nat) (l : List Int) (w : World) (hr : Kd.C (Kd.int .u8) w A0 l.length l) (hc : l.length ≤ c0) (h7 : 7 ≤ l.length) (hl : l.length ≤ 1000000) (ko : Nat) (x : List Int) (hO : sum_Open.f ko l = some (x, true)) (k : Int) (hk : rd l 0 = k) (hk5 : k < 1 ∨ 5 < k) (hkb : 0 ≤ k ∧ k ≤ 255) :
  Calls Tryz.prog 14 #[.slice A0 l.length c0] w fun e w' => ∃ ev, e = .returned (.tuple #[.agg #[.int .i64 0, .int .i64 0, .int .i64 0, .int .i64 0, .int .i64 0, .int .i64 0, .bool false, .int .i64 0, .int .i64 0, .slice none 0 0, .int .i64 0, .int .i64 0, .int .i64 0, .slice none 0 0], ev]) ∧ Er w' w.heap.size ev 5 0 ∧ Below w.heap.size w w' := by
 have hcv : wrap64 k = k := by unfold wrap64; omega
 have HR := Aside0.mk hr
 have HC := Aside0.mk hc
 have HL := Aside0.mk h7
 have hd : decide ((l.length : Int) < 7) = false := decide_eq_false (by omega)
 clear hr hc h7
 go_enter Tryz.func14, Tryz.ntmps14
 go_wp2_with fail
 have HB := Aside0.mk (below_alloc (Below.refl w.heap.size w) (.cells #[.int .i64 0, .int .i64 0, .int .i64 0, .int .i64 0, .int .i64 0, .int .i64 0, .bool false, .int .i64 0, .int .i64 0, .slice none 0 0, .int .i64 0, .int .i64 0, .int .i64 0, .slice none 0 0] 26))
 have HZ : Aside0 ((w.alloc (.cells #[.int .i64 0, .int .i64 0, .int .i64 0, .int .i64 0, .int .i64 0, .int .i64 0, .bool false, .int .i64 0, .int .i64 0, .slice none 0 0, .int .i64 0, .int .i64 0, .int .i64 0, .slice none 0 0] 26)).heap[w.heap.size]? = some (.cells #[.int .i64 0, .int .i64 0, .int .i64 0, .int .i64 0, .int .i64 0, .int .i64 0, .bool false, .int .i64 0, .int .i64 0, .slice none 0 0, .int .i64 0, .int .i64 0, .int .i64 0, .slice none 0 0] 26 (0, 0))) := ⟨heap_alloc_new _ _⟩
 generalize w.alloc (.cells #[.int .i64 0, .int .i64 0, .int .i64 0, .int .i64 0, .int .i64 0, .int .i64 0, .bool false, .int .i64 0, .int .i64 0, .slice none 0 0, .int .i64 0, .int .i64 0, .int .i64 0, .slice none 0 0] 26) = wa at *
 obtain ⟨b2, hb2⟩ : ∃ b2, b2 = w.heap.size := ⟨_, rfl⟩
 rw [← hb2]
 rw [← hb2] at HZ
 have HB2 := Aside0.mk hb2
 clear hb2
 refine (sum_Open.calls ko A0 c0 l _ true _ (Kd.C_below HR.out HB.out) HC.out hO).mono ?_
 rintro e w1 ⟨v, rfl, ho, hb⟩
 obtain ⟨A1, c1, rfl⟩ := Kd.R_slice ho
 have HO := Aside0.mk ho
 have HB1 := Aside0.mk (below_step HB.out hb)
 have HZ1 := Aside0.mk ((hb.block b2 (blk_lt HZ.out)).trans HZ.out)
 clear ho hb hO
 have h0l : (0 : Int) < l.length := by have := HL.out; omega
 obtain ⟨ad, ea_, hx0⟩ := Kd.at_int (Kd.C_below HR.out HB1.out) 0 (by decide) h0l
 cases ea_
 have hk0 : rd l 0 = k := hk
 rw [hk0, show ad.add (0 : Int).toNat = ad by cases ad; rfl] at hx0
 have p0_ := eq_true h0l
 have p0c : (0 : Int) < (l.length : Int) := h0l
 go_wp2_with fail
 refine (bare0 k 0 0 0 0 0 false 0 0 0 0 0 none 0 0 none 0 0 _ hk5).mono ?_
 rintro e w2 ⟨rfl, hb⟩
 have HB2_ := Aside0.mk (below_step HB1.out hb)
 have HZ2 := Aside0.mk ((hb.block b2 (blk_lt HZ1.out)).trans HZ1.out)
 clear hb hx0
 have zc0 : ∀ o0 o1 : Obj, ((w2.alloc o0).alloc o1).cell? ⟨b2, 0, none⟩ = some (.int .i64 0) := fun o0 o1 => (blk_cell (Kd_keep (Kd_keep HZ2.out)) 0).trans rfl
 have zf0 : ∀ o0 o1 : Obj, ((w2.alloc o0).alloc o1).frozen? ⟨b2, 0, none⟩ = false := fun o0 o1 => blk_frozen (Kd_keep (Kd_keep HZ2.out)) 0
 have zs0 : ∀ o0 o1 : Obj, ((w2.alloc o0).alloc o1).setCell ⟨b2, 0, none⟩ (.int .i64 0) = ((w2.alloc o0).alloc o1) := fun o0 o1 => setCell_same (Kd_keep (Kd_keep HZ2.out)) rfl
 have zc1 : ∀ o0 o1 : Obj, ((w2.alloc o0).alloc o1).cell? ⟨b2, 1, none⟩ = some (.int .i64 0) := fun o0 o1 => (blk_cell (Kd_keep (Kd_keep HZ2.out)) 1).trans rfl
 have zf1 : ∀ o0 o1 : Obj, ((w2.alloc o0).alloc o1).frozen? ⟨b2, 1, none⟩ = false := fun o0 o1 => blk_frozen (Kd_keep (Kd_keep HZ2.out)) 1
 have zs1 : ∀ o0 o1 : Obj, ((w2.alloc o0).alloc o1).setCell ⟨b2, 1, none⟩ (.int .i64 0) = ((w2.alloc o0).alloc o1) := fun o0 o1 => setCell_same (Kd_keep (Kd_keep HZ2.out)) rfl
 have zc2 : ∀ o0 o1 : Obj, ((w2.alloc o0).alloc o1).cell? ⟨b2, 2, none⟩ = some (.int .i64 0) := fun o0 o1 => (blk_cell (Kd_keep (Kd_keep HZ2.out)) 2).trans rfl
 have zf2 : ∀ o0 o1 : Obj, ((w2.alloc o0).alloc o1).frozen? ⟨b2, 2, none⟩ = false := fun o0 o1 => blk_frozen (Kd_keep (Kd_keep HZ2.out)) 2
 have zs2 : ∀ o0 o1 : Obj, ((w2.alloc o0).alloc o1).setCell ⟨b2, 2, none⟩ (.int .i64 0) = ((w2.alloc o0).alloc o1) := fun o0 o1 => setCell_same (Kd_keep (Kd_keep HZ2.out)) rfl
 have zc3 : ∀ o0 o1 : Obj, ((w2.alloc o0).alloc o1).cell? ⟨b2, 3, none⟩ = some (.int .i64 0) := fun o0 o1 => (blk_cell (Kd_keep (Kd_keep HZ2.out)) 3).trans rfl
 have zf3 : ∀ o0 o1 : Obj, ((w2.alloc o0).alloc o1).frozen? ⟨b2, 3, none⟩ = false := fun o0 o1 => blk_frozen (Kd_keep (Kd_keep HZ2.out)) 3
 have zs3 : ∀ o0 o1 : Obj, ((w2.alloc o0).alloc o1).setCell ⟨b2, 3, none⟩ (.int .i64 0) = ((w2.alloc o0).alloc o1) := fun o0 o1 => setCell_same (Kd_keep (Kd_keep HZ2.out)) rfl
 have zc4 : ∀ o0 o1 : Obj, ((w2.alloc o0).alloc o1).cell? ⟨b2, 4, none⟩ = some (.int .i64 0) := fun o0 o1 => (blk_cell (Kd_keep (Kd_keep HZ2.out)) 4).trans rfl
 have zf4 : ∀ o0 o1 : Obj, ((w2.alloc o0).alloc o1).frozen? ⟨b2, 4, none⟩ = false := fun o0 o1 => blk_frozen (Kd_keep (Kd_keep HZ2.out)) 4
 have zs4 : ∀ o0 o1 : Obj, ((w2.alloc o0).alloc o1).setCell ⟨b2, 4, none⟩ (.int .i64 0) = ((w2.alloc o0).alloc o1) := fun o0 o1 => setCell_same (Kd_keep (Kd_keep HZ2.out)) rfl
 have zc5 : ∀ o0 o1 : Obj, ((w2.alloc o0).alloc o1).cell? ⟨b2, 5, none⟩ = some (.int .i64 0) := fun o0 o1 => (blk_cell (Kd_keep (Kd_keep HZ2.out)) 5).trans rfl
 have zf5 : ∀ o0 o1 : Obj, ((w2.alloc o0).alloc o1).frozen? ⟨b2, 5, none⟩ = false := fun o0 o1 => blk_frozen (Kd_keep (Kd_keep HZ2.out)) 5
 have zs5 : ∀ o0 o1 : Obj, ((w2.alloc o0).alloc o1).setCell ⟨b2, 5, none⟩ (.int .i64 0) = ((w2.alloc o0).alloc o1) := fun o0 o1 => setCell_same (Kd_keep (Kd_keep HZ2.out)) rfl
 have zc6 : ∀ o0 o1 : Obj, ((w2.alloc o0).alloc o1).cell? ⟨b2, 6, none⟩ = some (.bool false) := fun o0 o1 => (blk_cell (Kd_keep (Kd_keep HZ2.out)) 6).trans rfl
 have zf6 : ∀ o0 o1 : Obj, ((w2.alloc o0).alloc o1).frozen? ⟨b2, 6, none⟩ = false := fun o0 o1 => blk_frozen (Kd_keep (Kd_keep HZ2.out)) 6
 have zs6 : ∀ o0 o1 : Obj, ((w2.alloc o0).alloc o1).setCell ⟨b2, 6, none⟩ (.bool false) = ((w2.alloc o0).alloc o1) := fun o0 o1 => setCell_same (Kd_keep (Kd_keep HZ2.out)) rfl
 have zc7 : ∀ o0 o1 : Obj, ((w2.alloc o0).alloc o1).cell? ⟨b2, 7, none⟩ = some (.int .i64 0) := fun o0 o1 => (blk_cell (Kd_keep (Kd_keep HZ2.out)) 7).trans rfl
 have zf7 : ∀ o0 o1 : Obj, ((w2.alloc o0).alloc o1).frozen? ⟨b2, 7, none⟩ = false := fun o0 o1 => blk_frozen (Kd_keep (Kd_keep HZ2.out)) 7
 have zs7 : ∀ o0 o1 : Obj, ((w2.alloc o0).alloc o1).setCell ⟨b2, 7, none⟩ (.int .i64 0) = ((w2.alloc o0).alloc o1) := fun o0 o1 => setCell_same (Kd_keep (Kd_keep HZ2.out)) rfl
 have zc8 : ∀ o0 o1 : Obj, ((w2.alloc o0).alloc o1).cell? ⟨b2, 8, none⟩ = some (.int .i64 0) := fun o0 o1 => (blk_cell (Kd_keep (Kd_keep HZ2.out)) 8).trans rfl
 have zf8 : ∀ o0 o1 : Obj, ((w2.alloc o0).alloc o1).frozen? ⟨b2, 8, none⟩ = false := fun o0 o1 => blk_frozen (Kd_keep (Kd_keep HZ2.out)) 8
 have zs8 : ∀ o0 o1 : Obj, ((w2.alloc o0).alloc o1).setCell ⟨b2, 8, none⟩ (.int .i64 0) = ((w2.alloc o0).alloc o1) := fun o0 o1 => setCell_same (Kd_keep (Kd_keep HZ2.out)) rfl
 have zc9 : ∀ o0 o1 : Obj, ((w2.alloc o0).alloc o1).cell? ⟨b2, 9, none⟩ = some (.slice none 0 0) := fun o0 o1 => (blk_cell (Kd_keep (Kd_keep HZ2.out)) 9).trans rfl
 have zf9 : ∀ o0 o1 : Obj, ((w2.alloc o0).alloc o1).frozen? ⟨b2, 9, none⟩ = false := fun o0 o1 => blk_frozen (Kd_keep (Kd_keep HZ2.out)) 9
 have zs9 : ∀ o0 o1 : Obj, ((w2.alloc o0).alloc o1).setCell ⟨b2, 9, none⟩ (.slice none 0 0) = ((w2.alloc o0).alloc o1) := fun o0 o1 => setCell_same (Kd_keep (Kd_keep HZ2.out)) rfl
 have zc10 : ∀ o0 o1 : Obj, ((w2.alloc o0).alloc o1).cell? ⟨b2, 10, none⟩ = some (.int .i64 0) := fun o0 o1 => (blk_cell (Kd_keep (Kd_keep HZ2.out)) 10).trans rfl
 have zf10 : ∀ o0 o1 : Obj, ((w2.alloc o0).alloc o1).frozen? ⟨b2, 10, none⟩ = false := fun o0 o1 => blk_frozen (Kd_keep (Kd_keep HZ2.out)) 10
 have zs10 : ∀ o0 o1 : Obj, ((w2.alloc o0).alloc o1).setCell ⟨b2, 10, none⟩ (.int .i64 0) = ((w2.alloc o0).alloc o1) := fun o0 o1 => setCell_same (Kd_keep (Kd_keep HZ2.out)) rfl
 have zc11 : ∀ o0 o1 : Obj, ((w2.alloc o0).alloc o1).cell? ⟨b2, 11, none⟩ = some (.int .i64 0) := fun o0 o1 => (blk_cell (Kd_keep (Kd_keep HZ2.out)) 11).trans rfl
 have zf11 : ∀ o0 o1 : Obj, ((w2.alloc o0).alloc o1).frozen? ⟨b2, 11, none⟩ = false := fun o0 o1 => blk_frozen (Kd_keep (Kd_keep HZ2.out)) 11
 have zs11 : ∀ o0 o1 : Obj, ((w2.alloc o0).alloc o1).setCell ⟨b2, 11, none⟩ (.int .i64 0) = ((w2.alloc o0).alloc o1) := fun o0 o1 => setCell_same (Kd_keep (Kd_keep HZ2.out)) rfl
 have zc12 : ∀ o0 o1 : Obj, ((w2.alloc o0).alloc o1).cell? ⟨b2, 12, none⟩ = some (.int .i64 0) := fun o0 o1 => (blk_cell (Kd_keep (Kd_keep HZ2.out)) 12).trans rfl
 have zf12 : ∀ o0 o1 : Obj, ((w2.alloc o0).alloc o1).frozen? ⟨b2, 12, none⟩ = false := fun o0 o1 => blk_frozen (Kd_keep (Kd_keep HZ2.out)) 12
 have zs12 : ∀ o0 o1 : Obj, ((w2.alloc o0).alloc o1).setCell ⟨b2, 12, none⟩ (.int .i64 0) = ((w2.alloc o0).alloc o1) := fun o0 o1 => setCell_same (Kd_keep (Kd_keep HZ2.out)) rfl
 have zc13 : ∀ o0 o1 : Obj, ((w2.alloc o0).alloc o1).cell? ⟨b2, 13, none⟩ = some (.slice none 0 0) := fun o0 o1 => (blk_cell (Kd_keep (Kd_keep HZ2.out)) 13).trans rfl
 have zf13 : ∀ o0 o1 : Obj, ((w2.alloc o0).alloc o1).frozen? ⟨b2, 13, none⟩ = false := fun o0 o1 => blk_frozen (Kd_keep (Kd_keep HZ2.out)) 13
 have zs13 : ∀ o0 o1 : Obj, ((w2.alloc o0).alloc o1).setCell ⟨b2, 13, none⟩ (.slice none 0 0) = ((w2.alloc o0).alloc o1) := fun o0 o1 => setCell_same (Kd_keep (Kd_keep HZ2.out)) rfl
 go_wp2_with fail
 refine bodyPost_ret (results_ct rfl _ _ b2 26 #[.int .i64 0, .int .i64 0, .int .i64 0, .int .i64 0, .int .i64 0, .int .i64 0, .bool false, .int .i64 0, .int .i64 0, .slice none 0 0, .int .i64 0, .int .i64 0, .int .i64 0, .slice none 0 0] (0, 0) _ rfl (Kd_keep (Kd_keep HZ2.out)) Tryz.underlying26 rfl (by kernel_rfl)) rfl ?_
 have hsz := HB2_.out.size
 exact ⟨_, rfl, .inr ⟨by decide, _, Nat.le_trans hsz (Nat.le_succ _), rfl, by have := heap_alloc_new (w2.alloc (.cells #[.int .i64 0, .int .i64 0, .int .i64 0, .int .i64 0, .int .i64 0, .int .i64 0, .bool false, .int .i64 0, .int .i64 0, .slice none 0 0, .int .i64 0, .int .i64 0, .int .i64 0, .slice none 0 0] 26)) (.cells #[.int .i64 0, .iface 66 (.int .i64 5)] 53); simpa using this⟩, below_alloc (below_alloc HB2_.out _) _⟩
set_option maxHeartbeats 8000000 in
theorem parse_ok (A0 : Option Addr) (c0 : Nat) (l : List Int) (w : World) (hr : Kd.C (Kd.int .u8) w A0 l.length l) (hc : l.length ≤ c0) (h7 : 7 ≤ l.length) (hl : l.length ≤ 1000000) (hby : Bys l) (ko : Nat) (x : List Int) (hO : sum_Open.f ko l = some (x, true)) (k0 : Int) (hk : rd l 0 = k0) (hk5 : 1 ≤ k0 ∧ k0 ≤ 5) (hx : numR (cut x 0 1) = k0) (hx1 : 1 ≤ x.length) (hxl : x.length ≤ 1000000) (hxb : Bys x)
  {k p n wt mk lk : Int} {fl : Bool} {cy of_ : Int} {ag : List Int} {f1 f2 sq : Int} {bd : List Int} {s' : St} (hf : fieldsF x ⟨1, 0, 0⟩ k0 = (⟨k, p, n, wt, mk, lk, fl, cy, of_, ag, f1, f2, sq, bd⟩, s')) (hs : s'.e = 0 ∧ (x.length : Int) - s'.at_ ≤ 0) :
  Calls Tryz.prog 14 #[.slice A0 l.length c0] w fun e w' => ∃ A9 c9 A13 c13, e = .returned (.tuple #[.agg #[.int .i64 k, .int .i64 p, .int .i64 n, .int .i64 wt, .int .i64 mk, .int .i64 lk, .bool fl, .int .i64 cy, .int .i64 of_, .slice A9 ag.length c9, .int .i64 f1, .int .i64 f2, .int .i64 sq, .slice A13 bd.length c13], .nilIface]) ∧ (Kd.int .i64).R 3 w' w.heap.size (fun _ => True) (.slice A9 ag.length c9) ag ∧ (Kd.int .u8).R 5 w' w.heap.size (fun _ => True) (.slice A13 bd.length c13) bd ∧ Below w.heap.size w w' := by
 have hcv : wrap64 k0 = k0 := by unfold wrap64; omega
 have HR := Aside0.mk hr
 have HC := Aside0.mk hc
 have HL := Aside0.mk h7
 have hd : decide ((l.length : Int) < 7) = false := decide_eq_false (by omega)
 clear hr hc h7
 go_enter Tryz.func14, Tryz.ntmps14
 go_wp2_with fail
 have HB := Aside0.mk (below_alloc (Below.refl w.heap.size w) (.cells #[.int .i64 0, .int .i64 0, .int .i64 0, .int .i64 0, .int .i64 0, .int .i64 0, .bool false, .int .i64 0, .int .i64 0, .slice none 0 0, .int .i64 0, .int .i64 0, .int .i64 0, .slice none 0 0] 26))
 have HZ : Aside0 ((w.alloc (.cells #[.int .i64 0, .int .i64 0, .int .i64 0, .int .i64 0, .int .i64 0, .int .i64 0, .bool false, .int .i64 0, .int .i64 0, .slice none 0 0, .int .i64 0, .int .i64 0, .int .i64 0, .slice none 0 0] 26)).heap[w.heap.size]? = some (.cells #[.int .i64 0, .int .i64 0, .int .i64 0, .int .i64 0, .int .i64 0, .int .i64 0, .bool false, .int .i64 0, .int .i64 0, .slice none 0 0, .int .i64 0, .int .i64 0, .int .i64 0, .slice none 0 0] 26 (0, 0))) := ⟨heap_alloc_new _ _⟩
 generalize w.alloc (.cells #[.int .i64 0, .int .i64 0, .int .i64 0, .int .i64 0, .int .i64 0, .int .i64 0, .bool false, .int .i64 0, .int .i64 0, .slice none 0 0, .int .i64 0, .int .i64 0, .int .i64 0, .slice none 0 0] 26) = wa at *
 obtain ⟨b2, hb2⟩ : ∃ b2, b2 = w.heap.size := ⟨_, rfl⟩
 rw [← hb2]
 rw [← hb2] at HZ
 have HB2 := Aside0.mk hb2
 clear hb2
 refine (sum_Open.calls ko A0 c0 l _ true _ (Kd.C_below HR.out HB.out) HC.out hO).mono ?_
 rintro e w1 ⟨v, rfl, ho, hb⟩
 obtain ⟨A1, c1, rfl⟩ := Kd.R_slice ho
 have HO := Aside0.mk ho
 have HB1 := Aside0.mk (below_step HB.out hb)
 have HZ1 := Aside0.mk ((hb.block b2 (blk_lt HZ.out)).trans HZ.out)
 clear ho hb hO
 have h0l : (0 : Int) < l.length := by have := HL.out; omega
 obtain ⟨ad, ea_, hx0⟩ := Kd.at_int (Kd.C_below HR.out HB1.out) 0 (by decide) h0l
 cases ea_
 have hk0 : rd l 0 = k0 := hk
 rw [hk0, show ad.add (0 : Int).toNat = ad by cases ad; rfl] at hx0
 have p0_ := eq_true h0l
 have p0c : (0 : Int) < (l.length : Int) := h0l
 go_wp2_with fail
 refine (bareZ k0 _ hk5).mono ?_
 rintro e w2 ⟨rfl, hb⟩
 have HB2_ := Aside0.mk (below_step HB1.out hb)
 have HZ2 := Aside0.mk ((hb.block b2 (blk_lt HZ1.out)).trans HZ1.out)
 have HO2 := Aside0.mk (Kd.R_below HO.out hb)
 clear hb hx0
 go_wp2_with fail
 have HB3 := Aside0.mk (below_alloc HB2_.out (.cells #[.int .i64 k0, .int .i64 0, .int .i64 0, .int .i64 0, .int .i64 0, .int .i64 0, .bool false, .int .i64 0, .int .i64 0, .slice none 0 0, .int .i64 0, .int .i64 0, .int .i64 0, .slice none 0 0] 26))
 have HZ3 := Aside0.mk (Kd_keep (o1 := .cells #[.int .i64 k0, .int .i64 0, .int .i64 0, .int .i64 0, .int .i64 0, .int .i64 0, .bool false, .int .i64 0, .int .i64 0, .slice none 0 0, .int .i64 0, .int .i64 0, .int .i64 0, .slice none 0 0] 26) HZ2.out)
 have HO3 := Aside0.mk (Kd.R_below HO2.out (below_alloc (Below.refl w2.heap.size w2) (.cells #[.int .i64 k0, .int .i64 0, .int .i64 0, .int .i64 0, .int .i64 0, .int .i64 0, .bool false, .int .i64 0, .int .i64 0, .slice none 0 0, .int .i64 0, .int .i64 0, .int .i64 0, .slice none 0 0] 26)))
 generalize w2.alloc (.cells #[.int .i64 k0, .int .i64 0, .int .i64 0, .int .i64 0, .int .i64 0, .int .i64 0, .bool false, .int .i64 0, .int .i64 0, .slice none 0 0, .int .i64 0, .int .i64 0, .int .i64 0, .slice none 0 0] 26) = w3 at *
 refine (new_walk A1 c1 x w3 (Kd.R_reads' HO3.out).2.2 (by omega)).mono ?_
 rintro e w4 ⟨r0, v0, rfl, hRd, hb⟩
 obtain ⟨A2, c2, rfl⟩ := Kd.R_slice hRd.2.1
 have HB4 := Aside0.mk (below_step HB3.out hb)
 have HZ4 := Aside0.mk ((hb.block b2 (blk_lt HZ3.out)).trans HZ3.out)
 have HRd := Aside0.mk hRd
 have HBA := Aside0.mk (Nat.lt_of_lt_of_le (blk_lt HZ3.out) (Nat.le_refl _))
 clear hb hRd
 go_wp2_with fail
 have kb5 := below_alloc (Below.refl w4.heap.size w4) (.cells #[.pointer (some ⟨r0, 0, none⟩), .nilIface] 75)
 have HG : Aside0 ((w4.alloc (.cells #[.pointer (some ⟨r0, 0, none⟩), .nilIface] 75)).heap[w4.heap.size]? = some (.cells #[.pointer (some ⟨r0, 0, none⟩), .nilIface] 75 (0, 0))) := ⟨heap_alloc_new _ _⟩
 have HB5 := Aside0.mk (below_step HB4.out kb5)
 have HZ5 := Aside0.mk ((kb5.block b2 (blk_lt HZ4.out)).trans HZ4.out)
 have HRd5 : Aside0 (Rd (w4.alloc (.cells #[.pointer (some ⟨r0, 0, none⟩), .nilIface] 75)) w3.heap.size r0 (.slice A2 x.length c2) x 0 false) := ⟨⟨(kb5.block r0 (blk_lt HRd.out.1)).trans HRd.out.1, Kd.R_below HRd.out.2.1 kb5, HRd.out.2.2⟩⟩
 have HGR := Aside0.mk (blk_lt HRd.out.1)
 clear kb5
 generalize w4.alloc (.cells #[.pointer (some ⟨r0, 0, none⟩), .nilIface] 75) = w5 at *
 generalize w4.heap.size = g at *
 have hp := (show w5.cell? ⟨g, 0, none⟩ = some (.pointer (some ⟨r0, 0, none⟩)) from (blk_cell HG.out 0).trans rfl)
 obtain ⟨kn, hkn⟩ := (num_evl (bys_cut (a := 0) (n := 1) hxb)).some_
 have hfd := fd_cut x 0 1 (by decide) (by decide) (by omega)
 have W_ := numberR_walk kn 1 (numR (cut x 0 1)) w5 HRd5.out (by decide) (by omega) hxl (by rw [hfd]; exact hkn)
 rw [hfd, hx] at W_
 refine W_.mono ?_
 rintro e w6 ⟨rfl, hA⟩
 have HG6 := Aside0.mk (hA.keep.blk HG.out (by have := HGR.out; omega) (by simp))
 have HRd6 := Aside0.mk hA.rd
 have HB6 := Aside0.mk (HB5.out.trans (hA.below.mono (by have := HB3.out.size; omega)))
 have HZ6 := Aside0.mk ((hA.below.block b2 HBA.out).trans HZ5.out)
 clear hA W_ hkn hfd hp
 go_wp2_with fail
 have kb7 := below_alloc (Below.refl w6.heap.size w6) (.cells #[.int .i64 k0, .int .i64 0, .int .i64 0, .int .i64 0, .int .i64 0, .int .i64 0, .bool false, .int .i64 0, .int .i64 0, .slice none 0 0, .int .i64 0, .int .i64 0, .int .i64 0, .slice none 0 0] 26)
 have HFB : Aside0 (Fb (w6.alloc (.cells #[.int .i64 k0, .int .i64 0, .int .i64 0, .int .i64 0, .int .i64 0, .int .i64 0, .bool false, .int .i64 0, .int .i64 0, .slice none 0 0, .int .i64 0, .int .i64 0, .int .i64 0, .slice none 0 0] 26)) w6.heap.size #[.int .i64 k0, .int .i64 0, .int .i64 0, .int .i64 0, .int .i64 0, .int .i64 0, .bool false, .int .i64 0, .int .i64 0, .slice none 0 0, .int .i64 0, .int .i64 0, .int .i64 0, .slice none 0 0]) := ⟨heap_alloc_new _ _⟩
 have hsz7 : (w6.alloc (.cells #[.int .i64 k0, .int .i64 0, .int .i64 0, .int .i64 0, .int .i64 0, .int .i64 0, .bool false, .int .i64 0, .int .i64 0, .slice none 0 0, .int .i64 0, .int .i64 0, .int .i64 0, .slice none 0 0] 26)).heap.size = w6.heap.size + 1 := by simp
 have HF7 : Aside0 (Fs (w6.alloc (.cells #[.int .i64 k0, .int .i64 0, .int .i64 0, .int .i64 0, .int .i64 0, .int .i64 0, .bool false, .int .i64 0, .int .i64 0, .slice none 0 0, .int .i64 0, .int .i64 0, .int .i64 0, .slice none 0 0] 26)) w3.heap.size (w6.heap.size + 1) g r0 A2 c2 x ⟨1, 0, 0⟩) := ⟨⟨⟨(kb7.block r0 (blk_lt HRd6.out.1)).trans HRd6.out.1, Kd.R_below HRd6.out.2.1 kb7, HRd6.out.2.2⟩, ⟨_, (kb7.block g (blk_lt HG6.out)).trans HG6.out, .inl ⟨rfl, rfl⟩⟩, HGR.out, by have := blk_lt HG6.out; omega, by rw [hsz7]; exact Nat.le_refl _, by decide, by show (1 : Int) ≤ x.length; omega⟩⟩
 have HGF := Aside0.mk (blk_lt HG6.out)
 have HB7 := Aside0.mk (below_step HB6.out kb7)
 have HZ7 := Aside0.mk ((kb7.block b2 (blk_lt HZ6.out)).trans HZ6.out)
 clear kb7 hsz7
 generalize w6.alloc (.cells #[.int .i64 k0, .int .i64 0, .int .i64 0, .int .i64 0, .int .i64 0, .int .i64 0, .bool false, .int .i64 0, .int .i64 0, .slice none 0 0, .int .i64 0, .int .i64 0, .int .i64 0, .slice none 0 0] 26) = w7 at *
 generalize w6.heap.size = fb at *
 refine (fields_walk k0 w7 HF7.out HGF.out (Nat.lt_succ_self _) HFB.out hxl hxb hk5 hf).mono ?_
 rintro e w8 ⟨rfl, hX, v9, v13, hFb, hR9, hR13⟩
 obtain ⟨A9, c9, rfl⟩ := Kd.R_slice hR9
 obtain ⟨A13, c13, rfl⟩ := Kd.R_slice hR13
 have HX := Aside0.mk hX
 have HF8 := Aside0.mk hFb
 have H9 := Aside0.mk hR9
 have H13 := Aside0.mk hR13
 have HB8 := Aside0.mk (HB7.out.trans (hX.below.mono (by have := HB3.out.size; omega)))
 have HZ8 := Aside0.mk ((hX.below.block b2 HBA.out).trans HZ7.out)
 clear hX hFb hR9 hR13
 have HE := Aside0.mk hs
 have hp := HX.out.fs.cells
 have hc := HX.out.fs.ok hs.1
 have hdl : decide (0 < (x.length : Int) - s'.at_) = false := decide_eq_false (by omega)
 have hdl2 : decide (s'.at_ < (x.length : Int)) = false := decide_eq_false (by omega)
 clear hs
 go_wp2_with fail
 refine (leftR_walk _ HX.out.fs.rd HX.out.fs.a0 HX.out.fs.a1 hxl).mono ?_
 rintro e w9 ⟨rfl, m1, rfl⟩
 have HXD := Aside0.mk (Fa.drewN HX.out.fs m1)
 have HX9 := Aside0.mk (Fx.call HX.out HF8.out HXD.out).1
 have HF9 := Aside0.mk (Fx.call HX.out HF8.out HXD.out).2
 have H99 := Aside0.mk (Kd.R_drewN H9.out m1)
 have H139 := Aside0.mk (Kd.R_drewN H13.out m1)
 have HB9 := Aside0.mk (pw_below_drewN HB8.out m1)
 have HZ9 : Aside0 ((w8.drewN m1).heap[b2]? = some (.cells #[.int .i64 0, .int .i64 0, .int .i64 0, .int .i64 0, .int .i64 0, .int .i64 0, .bool false, .int .i64 0, .int .i64 0, .slice none 0 0, .int .i64 0, .int .i64 0, .int .i64 0, .slice none 0 0] 26 (0, 0))) := ⟨HZ8.out⟩
 clear hp hc
 generalize w8.drewN m1 = w9 at *
 have hc := HX9.out.fs.ok HE.out.1
 have yc0 := (blk_cell HF9.out 0).trans rfl
 have yc1 := (blk_cell HF9.out 1).trans rfl
 have yc2 := (blk_cell HF9.out 2).trans rfl
 have yc3 := (blk_cell HF9.out 3).trans rfl
 have yc4 := (blk_cell HF9.out 4).trans rfl
 have yc5 := (blk_cell HF9.out 5).trans rfl
 have yc6 := (blk_cell HF9.out 6).trans rfl
 have yc7 := (blk_cell HF9.out 7).trans rfl
 have yc8 := (blk_cell HF9.out 8).trans rfl
 have yc9 := (blk_cell HF9.out 9).trans rfl
 have yc10 := (blk_cell HF9.out 10).trans rfl
 have yc11 := (blk_cell HF9.out 11).trans rfl
 have yc12 := (blk_cell HF9.out 12).trans rfl
 have yc13 := (blk_cell HF9.out 13).trans rfl
 have zc0 : w9.cell? ⟨b2, 0, none⟩ = some (.int .i64 0) := (blk_cell HZ9.out 0).trans rfl
 have zf0 := blk_frozen HZ9.out 0
 have zc1 : w9.cell? ⟨b2, 1, none⟩ = some (.int .i64 0) := (blk_cell HZ9.out 1).trans rfl
 have zf1 := blk_frozen HZ9.out 1
 have zc2 : w9.cell? ⟨b2, 2, none⟩ = some (.int .i64 0) := (blk_cell HZ9.out 2).trans rfl
 have zf2 := blk_frozen HZ9.out 2
 have zc3 : w9.cell? ⟨b2, 3, none⟩ = some (.int .i64 0) := (blk_cell HZ9.out 3).trans rfl
 have zf3 := blk_frozen HZ9.out 3
 have zc4 : w9.cell? ⟨b2, 4, none⟩ = some (.int .i64 0) := (blk_cell HZ9.out 4).trans rfl
 have zf4 := blk_frozen HZ9.out 4
 have zc5 : w9.cell? ⟨b2, 5, none⟩ = some (.int .i64 0) := (blk_cell HZ9.out 5).trans rfl
 have zf5 := blk_frozen HZ9.out 5
 have zc6 : w9.cell? ⟨b2, 6, none⟩ = some (.bool false) := (blk_cell HZ9.out 6).trans rfl
 have zf6 := blk_frozen HZ9.out 6
 have zc7 : w9.cell? ⟨b2, 7, none⟩ = some (.int .i64 0) := (blk_cell HZ9.out 7).trans rfl
 have zf7 := blk_frozen HZ9.out 7
 have zc8 : w9.cell? ⟨b2, 8, none⟩ = some (.int .i64 0) := (blk_cell HZ9.out 8).trans rfl
 have zf8 := blk_frozen HZ9.out 8
 have zc9 : w9.cell? ⟨b2, 9, none⟩ = some (.slice none 0 0) := (blk_cell HZ9.out 9).trans rfl
 have zf9 := blk_frozen HZ9.out 9
 have zc10 : w9.cell? ⟨b2, 10, none⟩ = some (.int .i64 0) := (blk_cell HZ9.out 10).trans rfl
 have zf10 := blk_frozen HZ9.out 10
 have zc11 : w9.cell? ⟨b2, 11, none⟩ = some (.int .i64 0) := (blk_cell HZ9.out 11).trans rfl
 have zf11 := blk_frozen HZ9.out 11
 have zc12 : w9.cell? ⟨b2, 12, none⟩ = some (.int .i64 0) := (blk_cell HZ9.out 12).trans rfl
 have zf12 := blk_frozen HZ9.out 12
 have zc13 : w9.cell? ⟨b2, 13, none⟩ = some (.slice none 0 0) := (blk_cell HZ9.out 13).trans rfl
 have zf13 := blk_frozen HZ9.out 13
 go_wp2_with fail
 have hb2l := HB2.out
 have hmm : w.heap.size ≤ fb + 1 := by have := HX9.out.fm; have := HX9.out.gf; have := HX9.out.fs.hg; have := HX9.out.fs.low; have := HB3.out.size; omega
 have hbb : ∀ q, fb + 1 ≤ q → q ≠ b2 := fun q hq => by have := HX9.out.gf; have := HX9.out.fs.hg; have := HX9.out.fs.low; have := HBA.out; omega
 have HBF : Below w.heap.size w ((((((((((((((w9.setCell ⟨b2, 0, none⟩ (.int .i64 k)).setCell ⟨b2, 1, none⟩ (.int .i64 p)).setCell ⟨b2, 2, none⟩ (.int .i64 n)).setCell ⟨b2, 3, none⟩ (.int .i64 wt)).setCell ⟨b2, 4, none⟩ (.int .i64 mk)).setCell ⟨b2, 5, none⟩ (.int .i64 lk)).setCell ⟨b2, 6, none⟩ (.bool fl)).setCell ⟨b2, 7, none⟩ (.int .i64 cy)).setCell ⟨b2, 8, none⟩ (.int .i64 of_)).setCell ⟨b2, 9, none⟩ (.slice A9 ag.length c9)).setCell ⟨b2, 10, none⟩ (.int .i64 f1)).setCell ⟨b2, 11, none⟩ (.int .i64 f2)).setCell ⟨b2, 12, none⟩ (.int .i64 sq)).setCell ⟨b2, 13, none⟩ (.slice A13 bd.length c13)) := below_set14 HB9.out (by omega) _ _ _ _ _ _ _ _ _ _ _ _ _ _
 have HBK : ((((((((((((((w9.setCell ⟨b2, 0, none⟩ (.int .i64 k)).setCell ⟨b2, 1, none⟩ (.int .i64 p)).setCell ⟨b2, 2, none⟩ (.int .i64 n)).setCell ⟨b2, 3, none⟩ (.int .i64 wt)).setCell ⟨b2, 4, none⟩ (.int .i64 mk)).setCell ⟨b2, 5, none⟩ (.int .i64 lk)).setCell ⟨b2, 6, none⟩ (.bool fl)).setCell ⟨b2, 7, none⟩ (.int .i64 cy)).setCell ⟨b2, 8, none⟩ (.int .i64 of_)).setCell ⟨b2, 9, none⟩ (.slice A9 ag.length c9)).setCell ⟨b2, 10, none⟩ (.int .i64 f1)).setCell ⟨b2, 11, none⟩ (.int .i64 f2)).setCell ⟨b2, 12, none⟩ (.int .i64 sq)).setCell ⟨b2, 13, none⟩ (.slice A13 bd.length c13)).heap[b2]? = some (.cells #[.int .i64 k, .int .i64 p, .int .i64 n, .int .i64 wt, .int .i64 mk, .int .i64 lk, .bool fl, .int .i64 cy, .int .i64 of_, .slice A9 ag.length c9, .int .i64 f1, .int .i64 f2, .int .i64 sq, .slice A13 bd.length c13] 26 (0, 0)) := blk_set14 HZ9.out _ _ _ _ _ _ _ _ _ _ _ _ _ _
 have h0 := Kd.R_mono (ok' := fun q => fb + 1 ≤ q) (Kd.R_bound H99.out) (fun q hq => hq.2.1)
 have h1 := Kd.R_mono (ok' := fun q => fb + 1 ≤ q) (Kd.R_bound H139.out) (fun q hq => hq.2.1)
 have HR9 : (Kd.int .i64).R 3 ((((((((((((((w9.setCell ⟨b2, 0, none⟩ (.int .i64 k)).setCell ⟨b2, 1, none⟩ (.int .i64 p)).setCell ⟨b2, 2, none⟩ (.int .i64 n)).setCell ⟨b2, 3, none⟩ (.int .i64 wt)).setCell ⟨b2, 4, none⟩ (.int .i64 mk)).setCell ⟨b2, 5, none⟩ (.int .i64 lk)).setCell ⟨b2, 6, none⟩ (.bool fl)).setCell ⟨b2, 7, none⟩ (.int .i64 cy)).setCell ⟨b2, 8, none⟩ (.int .i64 of_)).setCell ⟨b2, 9, none⟩ (.slice A9 ag.length c9)).setCell ⟨b2, 10, none⟩ (.int .i64 f1)).setCell ⟨b2, 11, none⟩ (.int .i64 f2)).setCell ⟨b2, 12, none⟩ (.int .i64 sq)).setCell ⟨b2, 13, none⟩ (.slice A13 bd.length c13)) w.heap.size (fun _ => True) (.slice A9 ag.length c9) ag := Kd.R_lower (Kd.R_mono (ok := fun q => fb + 1 ≤ q) (R_set14 h0 hbb _ _ _ _ _ _ _ _ _ _ _ _ _ _) (fun _ _ => trivial)) hmm
 have HR13 : (Kd.int .u8).R 5 ((((((((((((((w9.setCell ⟨b2, 0, none⟩ (.int .i64 k)).setCell ⟨b2, 1, none⟩ (.int .i64 p)).setCell ⟨b2, 2, none⟩ (.int .i64 n)).setCell ⟨b2, 3, none⟩ (.int .i64 wt)).setCell ⟨b2, 4, none⟩ (.int .i64 mk)).setCell ⟨b2, 5, none⟩ (.int .i64 lk)).setCell ⟨b2, 6, none⟩ (.bool fl)).setCell ⟨b2, 7, none⟩ (.int .i64 cy)).setCell ⟨b2, 8, none⟩ (.int .i64 of_)).setCell ⟨b2, 9, none⟩ (.slice A9 ag.length c9)).setCell ⟨b2, 10, none⟩ (.int .i64 f1)).setCell ⟨b2, 11, none⟩ (.int .i64 f2)).setCell ⟨b2, 12, none⟩ (.int .i64 sq)).setCell ⟨b2, 13, none⟩ (.slice A13 bd.length c13)) w.heap.size (fun _ => True) (.slice A13 bd.length c13) bd := Kd.R_lower (Kd.R_mono (ok := fun q => fb + 1 ≤ q) (R_set14 h1 hbb _ _ _ _ _ _ _ _ _ _ _ _ _ _) (fun _ _ => trivial)) hmm
 generalize ((((((((((((((w9.setCell ⟨b2, 0, none⟩ (.int .i64 k)).setCell ⟨b2, 1, none⟩ (.int .i64 p)).setCell ⟨b2, 2, none⟩ (.int .i64 n)).setCell ⟨b2, 3, none⟩ (.int .i64 wt)).setCell ⟨b2, 4, none⟩ (.int .i64 mk)).setCell ⟨b2, 5, none⟩ (.int .i64 lk)).setCell ⟨b2, 6, none⟩ (.bool fl)).setCell ⟨b2, 7, none⟩ (.int .i64 cy)).setCell ⟨b2, 8, none⟩ (.int .i64 of_)).setCell ⟨b2, 9, none⟩ (.slice A9 ag.length c9)).setCell ⟨b2, 10, none⟩ (.int .i64 f1)).setCell ⟨b2, 11, none⟩ (.int .i64 f2)).setCell ⟨b2, 12, none⟩ (.int .i64 sq)).setCell ⟨b2, 13, none⟩ (.slice A13 bd.length c13)) = wz at HBF HBK HR9 HR13 ⊢
 refine bodyPost_ret (results_ct rfl _ _ b2 26 #[.int .i64 k, .int .i64 p, .int .i64 n, .int .i64 wt, .int .i64 mk, .int .i64 lk, .bool fl, .int .i64 cy, .int .i64 of_, .slice A9 ag.length c9, .int .i64 f1, .int .i64 f2, .int .i64 sq, .slice A13 bd.length c13] (0, 0) _ rfl HBK Tryz.underlying26 rfl (by kernel_rfl)) rfl ?_
 exact ⟨_, _, _, _, rfl, HR9, HR13, HBF⟩
set_option maxHeartbeats 8000000 in
theorem parse_err (A0 : Option Addr) (c0 : Nat) (l : List Int) (w : World) (hr : Kd.C (Kd.int .u8) w A0 l.length l) (hc : l.length ≤ c0) (h7 : 7 ≤ l.length) (hl : l.length ≤ 1000000) (hby : Bys l) (ko : Nat) (x : List Int) (hO : sum_Open.f ko l = some (x, true)) (k0 : Int) (hk : rd l 0 = k0) (hk5 : 1 ≤ k0 ∧ k0 ≤ 5) (hx : numR (cut x 0 1) = k0) (hx1 : 1 ≤ x.length) (hxl : x.length ≤ 1000000) (hxb : Bys x)
  {k p n wt mk lk : Int} {fl : Bool} {cy of_ : Int} {ag : List Int} {f1 f2 sq : Int} {bd : List Int} {s' : St} (hf : fieldsF x ⟨1, 0, 0⟩ k0 = (⟨k, p, n, wt, mk, lk, fl, cy, of_, ag, f1, f2, sq, bd⟩, s')) (hs : s'.e ≠ 0) :
  Calls Tryz.prog 14 #[.slice A0 l.length c0] w fun e w' => ∃ ev, e = .returned (.tuple #[.agg #[.int .i64 0, .int .i64 0, .int .i64 0, .int .i64 0, .int .i64 0, .int .i64 0, .bool false, .int .i64 0, .int .i64 0, .slice none 0 0, .int .i64 0, .int .i64 0, .int .i64 0, .slice none 0 0], ev]) ∧ Er w' w.heap.size ev s'.e s'.ea ∧ Below w.heap.size w w' := by
 have hcv : wrap64 k0 = k0 := by unfold wrap64; omega
 have HR := Aside0.mk hr
 have HC := Aside0.mk hc
 have HL := Aside0.mk h7
 have hd : decide ((l.length : Int) < 7) = false := decide_eq_false (by omega)
 clear hr hc h7
 go_enter Tryz.func14, Tryz.ntmps14
 go_wp2_with fail
 have HB := Aside0.mk (below_alloc (Below.refl w.heap.size w) (.cells #[.int .i64 0, .int .i64 0, .int .i64 0, .int .i64 0, .int .i64 0, .int .i64 0, .bool false, .int .i64 0, .int .i64 0, .slice none 0 0, .int .i64 0, .int .i64 0, .int .i64 0, .slice none 0 0] 26))
 have HZ : Aside0 ((w.alloc (.cells #[.int .i64 0, .int .i64 0, .int .i64 0, .int .i64 0, .int .i64 0, .int .i64 0, .bool false, .int .i64 0, .int .i64 0, .slice none 0 0, .int .i64 0, .int .i64 0, .int .i64 0, .slice none 0 0] 26)).heap[w.heap.size]? = some (.cells #[.int .i64 0, .int .i64 0, .int .i64 0, .int .i64 0, .int .i64 0, .int .i64 0, .bool false, .int .i64 0, .int .i64 0, .slice none 0 0, .int .i64 0, .int .i64 0, .int .i64 0, .slice none 0 0] 26 (0, 0))) := ⟨heap_alloc_new _ _⟩
 generalize w.alloc (.cells #[.int .i64 0, .int .i64 0, .int .i64 0, .int .i64 0, .int .i64 0, .int .i64 0, .bool false, .int .i64 0, .int .i64 0, .slice none 0 0, .int .i64 0, .int .i64 0, .int .i64 0, .slice none 0 0] 26) = wa at *
 obtain ⟨b2, hb2⟩ : ∃ b2, b2 = w.heap.size := ⟨_, rfl⟩
 rw [← hb2]
 rw [← hb2] at HZ
 have HB2 := Aside0.mk hb2
 clear hb2
 refine (sum_Open.calls ko A0 c0 l _ true _ (Kd.C_below HR.out HB.out) HC.out hO).mono ?_
 rintro e w1 ⟨v, rfl, ho, hb⟩
 obtain ⟨A1, c1, rfl⟩ := Kd.R_slice ho
 have HO := Aside0.mk ho
 have HB1 := Aside0.mk (below_step HB.out hb)
 have HZ1 := Aside0.mk ((hb.block b2 (blk_lt HZ.out)).trans HZ.out)
 clear ho hb hO
 have h0l : (0 : Int) < l.length := by have := HL.out; omega
 obtain ⟨ad, ea_, hx0⟩ := Kd.at_int (Kd.C_below HR.out HB1.out) 0 (by decide) h0l
 cases ea_
 have hk0 : rd l 0 = k0 := hk
 rw [hk0, show ad.add (0 : Int).toNat = ad by cases ad; rfl] at hx0
 have p0_ := eq_true h0l
 have p0c : (0 : Int) < (l.length : Int) := h0l
 go_wp2_with fail
 refine (bareZ k0 _ hk5).mono ?_
 rintro e w2 ⟨rfl, hb⟩
 have HB2_ := Aside0.mk (below_step HB1.out hb)
 have HZ2 := Aside0.mk ((hb.block b2 (blk_lt HZ1.out)).trans HZ1.out)
 have HO2 := Aside0.mk (Kd.R_below HO.out hb)
 clear hb hx0
 go_wp2_with fail
 have HB3 := Aside0.mk (below_alloc HB2_.out (.cells #[.int .i64 k0, .int .i64 0, .int .i64 0, .int .i64 0, .int .i64 0, .int .i64 0, .bool false, .int .i64 0, .int .i64 0, .slice none 0 0, .int .i64 0, .int .i64 0, .int .i64 0, .slice none 0 0] 26))
 have HZ3 := Aside0.mk (Kd_keep (o1 := .cells #[.int .i64 k0, .int .i64 0, .int .i64 0, .int .i64 0, .int .i64 0, .int .i64 0, .bool false, .int .i64 0, .int .i64 0, .slice none 0 0, .int .i64 0, .int .i64 0, .int .i64 0, .slice none 0 0] 26) HZ2.out)
 have HO3 := Aside0.mk (Kd.R_below HO2.out (below_alloc (Below.refl w2.heap.size w2) (.cells #[.int .i64 k0, .int .i64 0, .int .i64 0, .int .i64 0, .int .i64 0, .int .i64 0, .bool false, .int .i64 0, .int .i64 0, .slice none 0 0, .int .i64 0, .int .i64 0, .int .i64 0, .slice none 0 0] 26)))
 generalize w2.alloc (.cells #[.int .i64 k0, .int .i64 0, .int .i64 0, .int .i64 0, .int .i64 0, .int .i64 0, .bool false, .int .i64 0, .int .i64 0, .slice none 0 0, .int .i64 0, .int .i64 0, .int .i64 0, .slice none 0 0] 26) = w3 at *
 refine (new_walk A1 c1 x w3 (Kd.R_reads' HO3.out).2.2 (by omega)).mono ?_
 rintro e w4 ⟨r0, v0, rfl, hRd, hb⟩
 obtain ⟨A2, c2, rfl⟩ := Kd.R_slice hRd.2.1
 have HB4 := Aside0.mk (below_step HB3.out hb)
 have HZ4 := Aside0.mk ((hb.block b2 (blk_lt HZ3.out)).trans HZ3.out)
 have HRd := Aside0.mk hRd
 have HBA := Aside0.mk (Nat.lt_of_lt_of_le (blk_lt HZ3.out) (Nat.le_refl _))
 clear hb hRd
 go_wp2_with fail
 have kb5 := below_alloc (Below.refl w4.heap.size w4) (.cells #[.pointer (some ⟨r0, 0, none⟩), .nilIface] 75)
 have HG : Aside0 ((w4.alloc (.cells #[.pointer (some ⟨r0, 0, none⟩), .nilIface] 75)).heap[w4.heap.size]? = some (.cells #[.pointer (some ⟨r0, 0, none⟩), .nilIface] 75 (0, 0))) := ⟨heap_alloc_new _ _⟩
 have HB5 := Aside0.mk (below_step HB4.out kb5)
 have HZ5 := Aside0.mk ((kb5.block b2 (blk_lt HZ4.out)).trans HZ4.out)
 have HRd5 : Aside0 (Rd (w4.alloc (.cells #[.pointer (some ⟨r0, 0, none⟩), .nilIface] 75)) w3.heap.size r0 (.slice A2 x.length c2) x 0 false) := ⟨⟨(kb5.block r0 (blk_lt HRd.out.1)).trans HRd.out.1, Kd.R_below HRd.out.2.1 kb5, HRd.out.2.2⟩⟩
 have HGR := Aside0.mk (blk_lt HRd.out.1)
 clear kb5
 generalize w4.alloc (.cells #[.pointer (some ⟨r0, 0, none⟩), .nilIface] 75) = w5 at *
 generalize w4.heap.size = g at *
 have hp := (show w5.cell? ⟨g, 0, none⟩ = some (.pointer (some ⟨r0, 0, none⟩)) from (blk_cell HG.out 0).trans rfl)
 obtain ⟨kn, hkn⟩ := (num_evl (bys_cut (a := 0) (n := 1) hxb)).some_
 have hfd := fd_cut x 0 1 (by decide) (by decide) (by omega)
 have W_ := numberR_walk kn 1 (numR (cut x 0 1)) w5 HRd5.out (by decide) (by omega) hxl (by rw [hfd]; exact hkn)
 rw [hfd, hx] at W_
 refine W_.mono ?_
 rintro e w6 ⟨rfl, hA⟩
 have HG6 := Aside0.mk (hA.keep.blk HG.out (by have := HGR.out; omega) (by simp))
 have HRd6 := Aside0.mk hA.rd
 have HB6 := Aside0.mk (HB5.out.trans (hA.below.mono (by have := HB3.out.size; omega)))
 have HZ6 := Aside0.mk ((hA.below.block b2 HBA.out).trans HZ5.out)
 clear hA W_ hkn hfd hp
 go_wp2_with fail
 have kb7 := below_alloc (Below.refl w6.heap.size w6) (.cells #[.int .i64 k0, .int .i64 0, .int .i64 0, .int .i64 0, .int .i64 0, .int .i64 0, .bool false, .int .i64 0, .int .i64 0, .slice none 0 0, .int .i64 0, .int .i64 0, .int .i64 0, .slice none 0 0] 26)
 have HFB : Aside0 (Fb (w6.alloc (.cells #[.int .i64 k0, .int .i64 0, .int .i64 0, .int .i64 0, .int .i64 0, .int .i64 0, .bool false, .int .i64 0, .int .i64 0, .slice none 0 0, .int .i64 0, .int .i64 0, .int .i64 0, .slice none 0 0] 26)) w6.heap.size #[.int .i64 k0, .int .i64 0, .int .i64 0, .int .i64 0, .int .i64 0, .int .i64 0, .bool false, .int .i64 0, .int .i64 0, .slice none 0 0, .int .i64 0, .int .i64 0, .int .i64 0, .slice none 0 0]) := ⟨heap_alloc_new _ _⟩
 have hsz7 : (w6.alloc (.cells #[.int .i64 k0, .int .i64 0, .int .i64 0, .int .i64 0, .int .i64 0, .int .i64 0, .bool false, .int .i64 0, .int .i64 0, .slice none 0 0, .int .i64 0, .int .i64 0, .int .i64 0, .slice none 0 0] 26)).heap.size = w6.heap.size + 1 := by simp
 have HF7 : Aside0 (Fs (w6.alloc (.cells #[.int .i64 k0, .int .i64 0, .int .i64 0, .int .i64 0, .int .i64 0, .int .i64 0, .bool false, .int .i64 0, .int .i64 0, .slice none 0 0, .int .i64 0, .int .i64 0, .int .i64 0, .slice none 0 0] 26)) w3.heap.size (w6.heap.size + 1) g r0 A2 c2 x ⟨1, 0, 0⟩) := ⟨⟨⟨(kb7.block r0 (blk_lt HRd6.out.1)).trans HRd6.out.1, Kd.R_below HRd6.out.2.1 kb7, HRd6.out.2.2⟩, ⟨_, (kb7.block g (blk_lt HG6.out)).trans HG6.out, .inl ⟨rfl, rfl⟩⟩, HGR.out, by have := blk_lt HG6.out; omega, by rw [hsz7]; exact Nat.le_refl _, by decide, by show (1 : Int) ≤ x.length; omega⟩⟩
 have HGF := Aside0.mk (blk_lt HG6.out)
 have HB7 := Aside0.mk (below_step HB6.out kb7)
 have HZ7 := Aside0.mk ((kb7.block b2 (blk_lt HZ6.out)).trans HZ6.out)
 clear kb7 hsz7
 generalize w6.alloc (.cells #[.int .i64 k0, .int .i64 0, .int .i64 0, .int .i64 0, .int .i64 0, .int .i64 0, .bool false, .int .i64 0, .int .i64 0, .slice none 0 0, .int .i64 0, .int .i64 0, .int .i64 0, .slice none 0 0] 26) = w7 at *
 generalize w6.heap.size = fb at *
 refine (fields_walk k0 w7 HF7.out HGF.out (Nat.lt_succ_self _) HFB.out hxl hxb hk5 hf).mono ?_
 rintro e w8 ⟨rfl, hX, v9, v13, hFb, hR9, hR13⟩
 obtain ⟨A9, c9, rfl⟩ := Kd.R_slice hR9
 obtain ⟨A13, c13, rfl⟩ := Kd.R_slice hR13
 have HX := Aside0.mk hX
 have HF8 := Aside0.mk hFb
 have H9 := Aside0.mk hR9
 have H13 := Aside0.mk hR13
 have HB8 := Aside0.mk (HB7.out.trans (hX.below.mono (by have := HB3.out.size; omega)))
 have HZ8 := Aside0.mk ((hX.below.block b2 HBA.out).trans HZ7.out)
 clear hX hFb hR9 hR13
 have HE := Aside0.mk hs
 obtain ⟨q, hcq⟩ := HX.out.fs.no hs
 clear hs
 go_upto_region 14 with fail
 clear hcq
 obtain ⟨evv, hgb, hEr⟩ := HX.out.fs.er
 have hc : w8.cell? ⟨g, 1, none⟩ = some evv := (blk_cell hgb 1).trans rfl
 have hmm : w.heap.size ≤ fb + 1 := by have := HX.out.fm; have := HX.out.gf; have := HX.out.fs.hg; have := HX.out.fs.low; have := HB3.out.size; omega
 have HER := Aside0.mk (hEr.lower hmm)
 obtain ⟨tt, vv, hev⟩ : ∃ tt vv, evv = .iface tt vv := by
  rcases hEr with ⟨q, _⟩ | ⟨_, q, _, rfl, _⟩
  ·exact absurd q HE.out
  ·exact ⟨_, _, rfl⟩
 subst hev
 clear hgb hEr hmm
 have zc0 : w8.cell? ⟨b2, 0, none⟩ = some (.int .i64 0) := (blk_cell HZ8.out 0).trans rfl
 have zf0 : w8.frozen? ⟨b2, 0, none⟩ = false := blk_frozen HZ8.out 0
 have zs0 : w8.setCell ⟨b2, 0, none⟩ (.int .i64 0) = w8 := setCell_same HZ8.out rfl
 have zc1 : w8.cell? ⟨b2, 1, none⟩ = some (.int .i64 0) := (blk_cell HZ8.out 1).trans rfl
 have zf1 : w8.frozen? ⟨b2, 1, none⟩ = false := blk_frozen HZ8.out 1
 have zs1 : w8.setCell ⟨b2, 1, none⟩ (.int .i64 0) = w8 := setCell_same HZ8.out rfl
 have zc2 : w8.cell? ⟨b2, 2, none⟩ = some (.int .i64 0) := (blk_cell HZ8.out 2).trans rfl
 have zf2 : w8.frozen? ⟨b2, 2, none⟩ = false := blk_frozen HZ8.out 2
 have zs2 : w8.setCell ⟨b2, 2, none⟩ (.int .i64 0) = w8 := setCell_same HZ8.out rfl
 have zc3 : w8.cell? ⟨b2, 3, none⟩ = some (.int .i64 0) := (blk_cell HZ8.out 3).trans rfl
 have zf3 : w8.frozen? ⟨b2, 3, none⟩ = false := blk_frozen HZ8.out 3
 have zs3 : w8.setCell ⟨b2, 3, none⟩ (.int .i64 0) = w8 := setCell_same HZ8.out rfl
 have zc4 : w8.cell? ⟨b2, 4, none⟩ = some (.int .i64 0) := (blk_cell HZ8.out 4).trans rfl
 have zf4 : w8.frozen? ⟨b2, 4, none⟩ = false := blk_frozen HZ8.out 4
 have zs4 : w8.setCell ⟨b2, 4, none⟩ (.int .i64 0) = w8 := setCell_same HZ8.out rfl
 have zc5 : w8.cell? ⟨b2, 5, none⟩ = some (.int .i64 0) := (blk_cell HZ8.out 5).trans rfl
 have zf5 : w8.frozen? ⟨b2, 5, none⟩ = false := blk_frozen HZ8.out 5
 have zs5 : w8.setCell ⟨b2, 5, none⟩ (.int .i64 0) = w8 := setCell_same HZ8.out rfl
 have zc6 : w8.cell? ⟨b2, 6, none⟩ = some (.bool false) := (blk_cell HZ8.out 6).trans rfl
 have zf6 : w8.frozen? ⟨b2, 6, none⟩ = false := blk_frozen HZ8.out 6
 have zs6 : w8.setCell ⟨b2, 6, none⟩ (.bool false) = w8 := setCell_same HZ8.out rfl
 have zc7 : w8.cell? ⟨b2, 7, none⟩ = some (.int .i64 0) := (blk_cell HZ8.out 7).trans rfl
 have zf7 : w8.frozen? ⟨b2, 7, none⟩ = false := blk_frozen HZ8.out 7
 have zs7 : w8.setCell ⟨b2, 7, none⟩ (.int .i64 0) = w8 := setCell_same HZ8.out rfl
 have zc8 : w8.cell? ⟨b2, 8, none⟩ = some (.int .i64 0) := (blk_cell HZ8.out 8).trans rfl
 have zf8 : w8.frozen? ⟨b2, 8, none⟩ = false := blk_frozen HZ8.out 8
 have zs8 : w8.setCell ⟨b2, 8, none⟩ (.int .i64 0) = w8 := setCell_same HZ8.out rfl
 have zc9 : w8.cell? ⟨b2, 9, none⟩ = some (.slice none 0 0) := (blk_cell HZ8.out 9).trans rfl
 have zf9 : w8.frozen? ⟨b2, 9, none⟩ = false := blk_frozen HZ8.out 9
 have zs9 : w8.setCell ⟨b2, 9, none⟩ (.slice none 0 0) = w8 := setCell_same HZ8.out rfl
 have zc10 : w8.cell? ⟨b2, 10, none⟩ = some (.int .i64 0) := (blk_cell HZ8.out 10).trans rfl
 have zf10 : w8.frozen? ⟨b2, 10, none⟩ = false := blk_frozen HZ8.out 10
 have zs10 : w8.setCell ⟨b2, 10, none⟩ (.int .i64 0) = w8 := setCell_same HZ8.out rfl
 have zc11 : w8.cell? ⟨b2, 11, none⟩ = some (.int .i64 0) := (blk_cell HZ8.out 11).trans rfl
 have zf11 : w8.frozen? ⟨b2, 11, none⟩ = false := blk_frozen HZ8.out 11
 have zs11 : w8.setCell ⟨b2, 11, none⟩ (.int .i64 0) = w8 := setCell_same HZ8.out rfl
 have zc12 : w8.cell? ⟨b2, 12, none⟩ = some (.int .i64 0) := (blk_cell HZ8.out 12).trans rfl
 have zf12 : w8.frozen? ⟨b2, 12, none⟩ = false := blk_frozen HZ8.out 12
 have zs12 : w8.setCell ⟨b2, 12, none⟩ (.int .i64 0) = w8 := setCell_same HZ8.out rfl
 have zc13 : w8.cell? ⟨b2, 13, none⟩ = some (.slice none 0 0) := (blk_cell HZ8.out 13).trans rfl
 have zf13 : w8.frozen? ⟨b2, 13, none⟩ = false := blk_frozen HZ8.out 13
 have zs13 : w8.setCell ⟨b2, 13, none⟩ (.slice none 0 0) = w8 := setCell_same HZ8.out rfl
 go_wp2_with fail
 go_region
 go_wp2_with fail
 refine bodyPost_ret (results_ct rfl _ _ b2 26 #[.int .i64 0, .int .i64 0, .int .i64 0, .int .i64 0, .int .i64 0, .int .i64 0, .bool false, .int .i64 0, .int .i64 0, .slice none 0 0, .int .i64 0, .int .i64 0, .int .i64 0, .slice none 0 0] (0, 0) _ rfl HZ8.out Tryz.underlying26 rfl (by kernel_rfl)) rfl ?_
 exact ⟨_, rfl, HER.out.keep (fun _ _ _ => rfl), below_drew1 HB8.out⟩
set_option maxHeartbeats 8000000 in
theorem parse_long (A0 : Option Addr) (c0 : Nat) (l : List Int) (w : World) (hr : Kd.C (Kd.int .u8) w A0 l.length l) (hc : l.length ≤ c0) (h7 : 7 ≤ l.length) (hl : l.length ≤ 1000000) (hby : Bys l) (ko : Nat) (x : List Int) (hO : sum_Open.f ko l = some (x, true)) (k0 : Int) (hk : rd l 0 = k0) (hk5 : 1 ≤ k0 ∧ k0 ≤ 5) (hx : numR (cut x 0 1) = k0) (hx1 : 1 ≤ x.length) (hxl : x.length ≤ 1000000) (hxb : Bys x)
  {k p n wt mk lk : Int} {fl : Bool} {cy of_ : Int} {ag : List Int} {f1 f2 sq : Int} {bd : List Int} {s' : St} (hf : fieldsF x ⟨1, 0, 0⟩ k0 = (⟨k, p, n, wt, mk, lk, fl, cy, of_, ag, f1, f2, sq, bd⟩, s')) (hs : s'.e = 0 ∧ 0 < (x.length : Int) - s'.at_) :
  Calls Tryz.prog 14 #[.slice A0 l.length c0] w fun e w' => ∃ ev, e = .returned (.tuple #[.agg #[.int .i64 0, .int .i64 0, .int .i64 0, .int .i64 0, .int .i64 0, .int .i64 0, .bool false, .int .i64 0, .int .i64 0, .slice none 0 0, .int .i64 0, .int .i64 0, .int .i64 0, .slice none 0 0], ev]) ∧ Er w' w.heap.size ev 3 s'.at_ ∧ Below w.heap.size w w' := by
 have hcv : wrap64 k0 = k0 := by unfold wrap64; omega
 have HR := Aside0.mk hr
 have HC := Aside0.mk hc
 have HL := Aside0.mk h7
 have hd : decide ((l.length : Int) < 7) = false := decide_eq_false (by omega)
 clear hr hc h7
 go_enter Tryz.func14, Tryz.ntmps14
 go_wp2_with fail
 have HB := Aside0.mk (below_alloc (Below.refl w.heap.size w) (.cells #[.int .i64 0, .int .i64 0, .int .i64 0, .int .i64 0, .int .i64 0, .int .i64 0, .bool false, .int .i64 0, .int .i64 0, .slice none 0 0, .int .i64 0, .int .i64 0, .int .i64 0, .slice none 0 0] 26))
 have HZ : Aside0 ((w.alloc (.cells #[.int .i64 0, .int .i64 0, .int .i64 0, .int .i64 0, .int .i64 0, .int .i64 0, .bool false, .int .i64 0, .int .i64 0, .slice none 0 0, .int .i64 0, .int .i64 0, .int .i64 0, .slice none 0 0] 26)).heap[w.heap.size]? = some (.cells #[.int .i64 0, .int .i64 0, .int .i64 0, .int .i64 0, .int .i64 0, .int .i64 0, .bool false, .int .i64 0, .int .i64 0, .slice none 0 0, .int .i64 0, .int .i64 0, .int .i64 0, .slice none 0 0] 26 (0, 0))) := ⟨heap_alloc_new _ _⟩
 generalize w.alloc (.cells #[.int .i64 0, .int .i64 0, .int .i64 0, .int .i64 0, .int .i64 0, .int .i64 0, .bool false, .int .i64 0, .int .i64 0, .slice none 0 0, .int .i64 0, .int .i64 0, .int .i64 0, .slice none 0 0] 26) = wa at *
 obtain ⟨b2, hb2⟩ : ∃ b2, b2 = w.heap.size := ⟨_, rfl⟩
 rw [← hb2]
 rw [← hb2] at HZ
 have HB2 := Aside0.mk hb2
 clear hb2
 refine (sum_Open.calls ko A0 c0 l _ true _ (Kd.C_below HR.out HB.out) HC.out hO).mono ?_
 rintro e w1 ⟨v, rfl, ho, hb⟩
 obtain ⟨A1, c1, rfl⟩ := Kd.R_slice ho
 have HO := Aside0.mk ho
 have HB1 := Aside0.mk (below_step HB.out hb)
 have HZ1 := Aside0.mk ((hb.block b2 (blk_lt HZ.out)).trans HZ.out)
 clear ho hb hO
 have h0l : (0 : Int) < l.length := by have := HL.out; omega
 obtain ⟨ad, ea_, hx0⟩ := Kd.at_int (Kd.C_below HR.out HB1.out) 0 (by decide) h0l
 cases ea_
 have hk0 : rd l 0 = k0 := hk
 rw [hk0, show ad.add (0 : Int).toNat = ad by cases ad; rfl] at hx0
 have p0_ := eq_true h0l
 have p0c : (0 : Int) < (l.length : Int) := h0l
 go_wp2_with fail
 refine (bareZ k0 _ hk5).mono ?_
 rintro e w2 ⟨rfl, hb⟩
 have HB2_ := Aside0.mk (below_step HB1.out hb)
 have HZ2 := Aside0.mk ((hb.block b2 (blk_lt HZ1.out)).trans HZ1.out)
 have HO2 := Aside0.mk (Kd.R_below HO.out hb)
 clear hb hx0
 go_wp2_with fail
 have HB3 := Aside0.mk (below_alloc HB2_.out (.cells #[.int .i64 k0, .int .i64 0, .int .i64 0, .int .i64 0, .int .i64 0, .int .i64 0, .bool false, .int .i64 0, .int .i64 0, .slice none 0 0, .int .i64 0, .int .i64 0, .int .i64 0, .slice none 0 0] 26))
 have HZ3 := Aside0.mk (Kd_keep (o1 := .cells #[.int .i64 k0, .int .i64 0, .int .i64 0, .int .i64 0, .int .i64 0, .int .i64 0, .bool false, .int .i64 0, .int .i64 0, .slice none 0 0, .int .i64 0, .int .i64 0, .int .i64 0, .slice none 0 0] 26) HZ2.out)
 have HO3 := Aside0.mk (Kd.R_below HO2.out (below_alloc (Below.refl w2.heap.size w2) (.cells #[.int .i64 k0, .int .i64 0, .int .i64 0, .int .i64 0, .int .i64 0, .int .i64 0, .bool false, .int .i64 0, .int .i64 0, .slice none 0 0, .int .i64 0, .int .i64 0, .int .i64 0, .slice none 0 0] 26)))
 generalize w2.alloc (.cells #[.int .i64 k0, .int .i64 0, .int .i64 0, .int .i64 0, .int .i64 0, .int .i64 0, .bool false, .int .i64 0, .int .i64 0, .slice none 0 0, .int .i64 0, .int .i64 0, .int .i64 0, .slice none 0 0] 26) = w3 at *
 refine (new_walk A1 c1 x w3 (Kd.R_reads' HO3.out).2.2 (by omega)).mono ?_
 rintro e w4 ⟨r0, v0, rfl, hRd, hb⟩
 obtain ⟨A2, c2, rfl⟩ := Kd.R_slice hRd.2.1
 have HB4 := Aside0.mk (below_step HB3.out hb)
 have HZ4 := Aside0.mk ((hb.block b2 (blk_lt HZ3.out)).trans HZ3.out)
 have HRd := Aside0.mk hRd
 have HBA := Aside0.mk (Nat.lt_of_lt_of_le (blk_lt HZ3.out) (Nat.le_refl _))
 clear hb hRd
 go_wp2_with fail
 have kb5 := below_alloc (Below.refl w4.heap.size w4) (.cells #[.pointer (some ⟨r0, 0, none⟩), .nilIface] 75)
 have HG : Aside0 ((w4.alloc (.cells #[.pointer (some ⟨r0, 0, none⟩), .nilIface] 75)).heap[w4.heap.size]? = some (.cells #[.pointer (some ⟨r0, 0, none⟩), .nilIface] 75 (0, 0))) := ⟨heap_alloc_new _ _⟩
 have HB5 := Aside0.mk (below_step HB4.out kb5)
 have HZ5 := Aside0.mk ((kb5.block b2 (blk_lt HZ4.out)).trans HZ4.out)
 have HRd5 : Aside0 (Rd (w4.alloc (.cells #[.pointer (some ⟨r0, 0, none⟩), .nilIface] 75)) w3.heap.size r0 (.slice A2 x.length c2) x 0 false) := ⟨⟨(kb5.block r0 (blk_lt HRd.out.1)).trans HRd.out.1, Kd.R_below HRd.out.2.1 kb5, HRd.out.2.2⟩⟩
 have HGR := Aside0.mk (blk_lt HRd.out.1)
 clear kb5
 generalize w4.alloc (.cells #[.pointer (some ⟨r0, 0, none⟩), .nilIface] 75) = w5 at *
 generalize w4.heap.size = g at *
 have hp := (show w5.cell? ⟨g, 0, none⟩ = some (.pointer (some ⟨r0, 0, none⟩)) from (blk_cell HG.out 0).trans rfl)
 obtain ⟨kn, hkn⟩ := (num_evl (bys_cut (a := 0) (n := 1) hxb)).some_
 have hfd := fd_cut x 0 1 (by decide) (by decide) (by omega)
 have W_ := numberR_walk kn 1 (numR (cut x 0 1)) w5 HRd5.out (by decide) (by omega) hxl (by rw [hfd]; exact hkn)
 rw [hfd, hx] at W_
 refine W_.mono ?_
 rintro e w6 ⟨rfl, hA⟩
 have HG6 := Aside0.mk (hA.keep.blk HG.out (by have := HGR.out; omega) (by simp))
 have HRd6 := Aside0.mk hA.rd
 have HB6 := Aside0.mk (HB5.out.trans (hA.below.mono (by have := HB3.out.size; omega)))
 have HZ6 := Aside0.mk ((hA.below.block b2 HBA.out).trans HZ5.out)
 clear hA W_ hkn hfd hp
 go_wp2_with fail
 have kb7 := below_alloc (Below.refl w6.heap.size w6) (.cells #[.int .i64 k0, .int .i64 0, .int .i64 0, .int .i64 0, .int .i64 0, .int .i64 0, .bool false, .int .i64 0, .int .i64 0, .slice none 0 0, .int .i64 0, .int .i64 0, .int .i64 0, .slice none 0 0] 26)
 have HFB : Aside0 (Fb (w6.alloc (.cells #[.int .i64 k0, .int .i64 0, .int .i64 0, .int .i64 0, .int .i64 0, .int .i64 0, .bool false, .int .i64 0, .int .i64 0, .slice none 0 0, .int .i64 0, .int .i64 0, .int .i64 0, .slice none 0 0] 26)) w6.heap.size #[.int .i64 k0, .int .i64 0, .int .i64 0, .int .i64 0, .int .i64 0, .int .i64 0, .bool false, .int .i64 0, .int .i64 0, .slice none 0 0, .int .i64 0, .int .i64 0, .int .i64 0, .slice none 0 0]) := ⟨heap_alloc_new _ _⟩
 have hsz7 : (w6.alloc (.cells #[.int .i64 k0, .int .i64 0, .int .i64 0, .int .i64 0, .int .i64 0, .int .i64 0, .bool false, .int .i64 0, .int .i64 0, .slice none 0 0, .int .i64 0, .int .i64 0, .int .i64 0, .slice none 0 0] 26)).heap.size = w6.heap.size + 1 := by simp
 have HF7 : Aside0 (Fs (w6.alloc (.cells #[.int .i64 k0, .int .i64 0, .int .i64 0, .int .i64 0, .int .i64 0, .int .i64 0, .bool false, .int .i64 0, .int .i64 0, .slice none 0 0, .int .i64 0, .int .i64 0, .int .i64 0, .slice none 0 0] 26)) w3.heap.size (w6.heap.size + 1) g r0 A2 c2 x ⟨1, 0, 0⟩) := ⟨⟨⟨(kb7.block r0 (blk_lt HRd6.out.1)).trans HRd6.out.1, Kd.R_below HRd6.out.2.1 kb7, HRd6.out.2.2⟩, ⟨_, (kb7.block g (blk_lt HG6.out)).trans HG6.out, .inl ⟨rfl, rfl⟩⟩, HGR.out, by have := blk_lt HG6.out; omega, by rw [hsz7]; exact Nat.le_refl _, by decide, by show (1 : Int) ≤ x.length; omega⟩⟩
 have HGF := Aside0.mk (blk_lt HG6.out)
 have HB7 := Aside0.mk (below_step HB6.out kb7)
 have HZ7 := Aside0.mk ((kb7.block b2 (blk_lt HZ6.out)).trans HZ6.out)
 clear kb7 hsz7
 generalize w6.alloc (.cells #[.int .i64 k0, .int .i64 0, .int .i64 0, .int .i64 0, .int .i64 0, .int .i64 0, .bool false, .int .i64 0, .int .i64 0, .slice none 0 0, .int .i64 0, .int .i64 0, .int .i64 0, .slice none 0 0] 26) = w7 at *
 generalize w6.heap.size = fb at *
 refine (fields_walk k0 w7 HF7.out HGF.out (Nat.lt_succ_self _) HFB.out hxl hxb hk5 hf).mono ?_
 rintro e w8 ⟨rfl, hX, v9, v13, hFb, hR9, hR13⟩
 obtain ⟨A9, c9, rfl⟩ := Kd.R_slice hR9
 obtain ⟨A13, c13, rfl⟩ := Kd.R_slice hR13
 have HX := Aside0.mk hX
 have HF8 := Aside0.mk hFb
 have H9 := Aside0.mk hR9
 have H13 := Aside0.mk hR13
 have HB8 := Aside0.mk (HB7.out.trans (hX.below.mono (by have := HB3.out.size; omega)))
 have HZ8 := Aside0.mk ((hX.below.block b2 HBA.out).trans HZ7.out)
 clear hX hFb hR9 hR13
 have HS := Aside0.mk hs
 have hp := HX.out.fs.cells
 have hc := HX.out.fs.ok hs.1
 have hdl : decide (0 < (x.length : Int) - s'.at_) = true := decide_eq_true hs.2
 have hdl2 : decide (s'.at_ < (x.length : Int)) = true := decide_eq_true (by omega)
 clear hs
 go_wp2_with fail
 refine (leftR_walk _ HX.out.fs.rd HX.out.fs.a0 HX.out.fs.a1 hxl).mono ?_
 rintro e w9 ⟨rfl, m1, rfl⟩
 have HXD := Aside0.mk (Fa.drewN HX.out.fs m1)
 have HX9 := Aside0.mk (Fx.call HX.out HF8.out HXD.out).1
 have HF9 := Aside0.mk (Fx.call HX.out HF8.out HXD.out).2
 have HB9 := Aside0.mk (pw_below_drewN HB8.out m1)
 have HZ9 : Aside0 ((w8.drewN m1).heap[b2]? = some (.cells #[.int .i64 0, .int .i64 0, .int .i64 0, .int .i64 0, .int .i64 0, .int .i64 0, .bool false, .int .i64 0, .int .i64 0, .slice none 0 0, .int .i64 0, .int .i64 0, .int .i64 0, .slice none 0 0] 26 (0, 0))) := ⟨HZ8.out⟩
 clear hp hc
 generalize w8.drewN m1 = w9 at *
 have hp := HX9.out.fs.cells
 go_wp2_with fail
 refine (atR_walk _ _ HX9.out.fs.rd).mono ?_
 rintro e w10 ⟨rfl, rfl⟩
 go_wp2_with fail
 have W_ := fail_walk s'.at_ 3 _ HX9.out.fs (by decide)
 rw [show failS s' s'.at_ 3 = ⟨s'.at_, 3, s'.at_⟩ from if_pos HS.out.1] at W_
 refine W_.mono ?_
 rintro e w10 ⟨rfl, hF⟩
 have HXA := Aside0.mk (Fx.call HX9.out HF9.out hF).1
 have HBA_ := Aside0.mk (HB9.out.trans (hF.below.mono (by have := HB3.out.size; omega)))
 have HZA := Aside0.mk ((hF.below.block b2 HBA.out).trans HZ9.out)
 have HE : Aside0 ((⟨s'.at_, 3, s'.at_⟩ : St).e ≠ 0) := ⟨show (3 : Int) ≠ 0 by decide⟩
 clear hF W_ hp
 obtain ⟨evv, hgb, hEr⟩ := HXA.out.fs.er
 have hc : w10.cell? ⟨g, 1, none⟩ = some evv := (blk_cell hgb 1).trans rfl
 have hmm : w.heap.size ≤ fb + 1 := by have := HXA.out.fm; have := HXA.out.gf; have := HXA.out.fs.hg; have := HXA.out.fs.low; have := HB3.out.size; omega
 have HER := Aside0.mk (hEr.lower hmm)
 obtain ⟨tt, vv, hev⟩ : ∃ tt vv, evv = .iface tt vv := by
  rcases hEr with ⟨q, _⟩ | ⟨_, q, _, rfl, _⟩
  ·exact absurd q HE.out
  ·exact ⟨_, _, rfl⟩
 subst hev
 clear hgb hEr hmm
 have zc0 : w10.cell? ⟨b2, 0, none⟩ = some (.int .i64 0) := (blk_cell HZA.out 0).trans rfl
 have zf0 : w10.frozen? ⟨b2, 0, none⟩ = false := blk_frozen HZA.out 0
 have zs0 : w10.setCell ⟨b2, 0, none⟩ (.int .i64 0) = w10 := setCell_same HZA.out rfl
 have zc1 : w10.cell? ⟨b2, 1, none⟩ = some (.int .i64 0) := (blk_cell HZA.out 1).trans rfl
 have zf1 : w10.frozen? ⟨b2, 1, none⟩ = false := blk_frozen HZA.out 1
 have zs1 : w10.setCell ⟨b2, 1, none⟩ (.int .i64 0) = w10 := setCell_same HZA.out rfl
 have zc2 : w10.cell? ⟨b2, 2, none⟩ = some (.int .i64 0) := (blk_cell HZA.out 2).trans rfl
 have zf2 : w10.frozen? ⟨b2, 2, none⟩ = false := blk_frozen HZA.out 2
 have zs2 : w10.setCell ⟨b2, 2, none⟩ (.int .i64 0) = w10 := setCell_same HZA.out rfl
 have zc3 : w10.cell? ⟨b2, 3, none⟩ = some (.int .i64 0) := (blk_cell HZA.out 3).trans rfl
 have zf3 : w10.frozen? ⟨b2, 3, none⟩ = false := blk_frozen HZA.out 3
 have zs3 : w10.setCell ⟨b2, 3, none⟩ (.int .i64 0) = w10 := setCell_same HZA.out rfl
 have zc4 : w10.cell? ⟨b2, 4, none⟩ = some (.int .i64 0) := (blk_cell HZA.out 4).trans rfl
 have zf4 : w10.frozen? ⟨b2, 4, none⟩ = false := blk_frozen HZA.out 4
 have zs4 : w10.setCell ⟨b2, 4, none⟩ (.int .i64 0) = w10 := setCell_same HZA.out rfl
 have zc5 : w10.cell? ⟨b2, 5, none⟩ = some (.int .i64 0) := (blk_cell HZA.out 5).trans rfl
 have zf5 : w10.frozen? ⟨b2, 5, none⟩ = false := blk_frozen HZA.out 5
 have zs5 : w10.setCell ⟨b2, 5, none⟩ (.int .i64 0) = w10 := setCell_same HZA.out rfl
 have zc6 : w10.cell? ⟨b2, 6, none⟩ = some (.bool false) := (blk_cell HZA.out 6).trans rfl
 have zf6 : w10.frozen? ⟨b2, 6, none⟩ = false := blk_frozen HZA.out 6
 have zs6 : w10.setCell ⟨b2, 6, none⟩ (.bool false) = w10 := setCell_same HZA.out rfl
 have zc7 : w10.cell? ⟨b2, 7, none⟩ = some (.int .i64 0) := (blk_cell HZA.out 7).trans rfl
 have zf7 : w10.frozen? ⟨b2, 7, none⟩ = false := blk_frozen HZA.out 7
 have zs7 : w10.setCell ⟨b2, 7, none⟩ (.int .i64 0) = w10 := setCell_same HZA.out rfl
 have zc8 : w10.cell? ⟨b2, 8, none⟩ = some (.int .i64 0) := (blk_cell HZA.out 8).trans rfl
 have zf8 : w10.frozen? ⟨b2, 8, none⟩ = false := blk_frozen HZA.out 8
 have zs8 : w10.setCell ⟨b2, 8, none⟩ (.int .i64 0) = w10 := setCell_same HZA.out rfl
 have zc9 : w10.cell? ⟨b2, 9, none⟩ = some (.slice none 0 0) := (blk_cell HZA.out 9).trans rfl
 have zf9 : w10.frozen? ⟨b2, 9, none⟩ = false := blk_frozen HZA.out 9
 have zs9 : w10.setCell ⟨b2, 9, none⟩ (.slice none 0 0) = w10 := setCell_same HZA.out rfl
 have zc10 : w10.cell? ⟨b2, 10, none⟩ = some (.int .i64 0) := (blk_cell HZA.out 10).trans rfl
 have zf10 : w10.frozen? ⟨b2, 10, none⟩ = false := blk_frozen HZA.out 10
 have zs10 : w10.setCell ⟨b2, 10, none⟩ (.int .i64 0) = w10 := setCell_same HZA.out rfl
 have zc11 : w10.cell? ⟨b2, 11, none⟩ = some (.int .i64 0) := (blk_cell HZA.out 11).trans rfl
 have zf11 : w10.frozen? ⟨b2, 11, none⟩ = false := blk_frozen HZA.out 11
 have zs11 : w10.setCell ⟨b2, 11, none⟩ (.int .i64 0) = w10 := setCell_same HZA.out rfl
 have zc12 : w10.cell? ⟨b2, 12, none⟩ = some (.int .i64 0) := (blk_cell HZA.out 12).trans rfl
 have zf12 : w10.frozen? ⟨b2, 12, none⟩ = false := blk_frozen HZA.out 12
 have zs12 : w10.setCell ⟨b2, 12, none⟩ (.int .i64 0) = w10 := setCell_same HZA.out rfl
 have zc13 : w10.cell? ⟨b2, 13, none⟩ = some (.slice none 0 0) := (blk_cell HZA.out 13).trans rfl
 have zf13 : w10.frozen? ⟨b2, 13, none⟩ = false := blk_frozen HZA.out 13
 have zs13 : w10.setCell ⟨b2, 13, none⟩ (.slice none 0 0) = w10 := setCell_same HZA.out rfl
 go_wp2_with fail
 go_region
 go_wp2_with fail
 refine bodyPost_ret (results_ct rfl _ _ b2 26 #[.int .i64 0, .int .i64 0, .int .i64 0, .int .i64 0, .int .i64 0, .int .i64 0, .bool false, .int .i64 0, .int .i64 0, .slice none 0 0, .int .i64 0, .int .i64 0, .int .i64 0, .slice none 0 0] (0, 0) _ rfl HZA.out Tryz.underlying26 rfl (by kernel_rfl)) rfl ?_
 exact ⟨_, rfl, HER.out.keep (fun _ _ _ => rfl), below_drew1 HBA_.out⟩
end Go.Proofs.YtaaifdclojkdmaaGreatDoor.MFr
