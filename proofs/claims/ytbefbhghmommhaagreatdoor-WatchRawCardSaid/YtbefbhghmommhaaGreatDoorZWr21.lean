/- Texts of this claim, laid together by a program (wip/g/merge5.py): HBs. -/
import Derived.Test.YtbefbhghmommhaaGreatDoorZWr18
import Derived.Test.YtbefbhghmommhaaGreatDoorZWr12
import Derived.Test.YtbefbhghmommhaaGreatDoorZWr20
import Derived.Test.YtbefbhghmommhaaGreatDoorZWr17
import Derived.Deep.DeepCutAuto
set_option linter.unusedVariables false
set_option linter.unusedSimpArgs false
set_option maxRecDepth 100000
namespace Go.Proofs.YtbefbhghmommhaaGreatDoor.MWo
open Go.RowKit Go.Proofs.YtbefbhghmommhaaGreatDoorW.PrintWords Go.Proofs.YtbefbhghmommhaaGreatDoorW.PrintLast Go.Proofs.YtbefbhghmommhaaGreatDoorW.PrintMore Go.Proofs.YtbefbhghmommhaaGreatDoor.Evl
def offBase (cy g r : Int) (x : S55) : Bool := if x.f4 = cy then Rt.root x.f5 g != r else true
set_option maxHeartbeats 2000000 in
theorem offBase_walk (x : S55) (cy g r : Int) (A5 : Option Addr) (c5 : Nat) (ad : Addr) (n c bL bG bR : Nat) (w : World) (hn : 0 < n)
  (hx : Kd.C (Kd.int .i64) w A5 x.f5.length x.f5) (hx5 : x.f5.length ≤ c5) (hl : w.cell? ⟨bL, 0, none⟩ = some (.slice (some ad) n c)) (hy : w.cell? ⟨ad.block, ad.off + 4, none⟩ = some (.int .i64 cy)) (hg : w.cell? ⟨bG, 0, none⟩ = some (.int .i64 g)) (hr : w.cell? ⟨bR, 0, none⟩ = some (.int .i64 r)) :
  Calls Tryz.prog 27 #[.agg #[.int .i64 x.f0, .int .i64 x.f1, .int .i64 x.f2, .int .i64 x.f3, .int .i64 x.f4, .slice A5 x.f5.length c5, .int .i64 x.f6, .int .i64 x.f7], .pointer (some ⟨bL, 0, none⟩), .pointer (some ⟨bG, 0, none⟩), .pointer (some ⟨bR, 0, none⟩)] w fun e w' => e = .returned (.bool (offBase cy g r x)) ∧ Below w.heap.size w w' := by
 have HX := am (And.intro hx hx5)
 have kb := below_alloc (Below.refl w.heap.size w) (.cells #[.int .i64 x.f0, .int .i64 x.f1, .int .i64 x.f2, .int .i64 x.f3, .int .i64 x.f4, .slice A5 x.f5.length c5, .int .i64 x.f6, .int .i64 x.f7] 55)
 have HBX := am (heap_alloc_new w (.cells #[.int .i64 x.f0, .int .i64 x.f1, .int .i64 x.f2, .int .i64 x.f3, .int .i64 x.f4, .slice A5 x.f5.length c5, .int .i64 x.f6, .int .i64 x.f7] 55))
 have HB := am kb
 have HL := am ((kb.cell (c_lt hl)).trans hl)
 have HY := am ((kb.cell (c_lt hy)).trans hy)
 have HG := am ((kb.cell (c_lt hg)).trans hg)
 have HR := am ((kb.cell (c_lt hr)).trans hr)
 have p1 := eq_true (show (0 : Int) < (n : Int) by omega)
 obtain ⟨kr, hkr⟩ := (Rt.root_evl x.f5 g).some_
 have HK := am hkr
 clear hx hx5 hl hy hg hr kb hkr
 by_cases h4 : x.f4 = cy
 ·have b4 : (x.f4 != cy) = false := by simp [h4]
  rw [show offBase cy g r x = (Rt.root x.f5 g != r) by unfold offBase; rw [if_pos h4]]
  clear h4
  generalize Rt.root x.f5 g = rx at HK ⊢
  go_enter Tryz.func27, Tryz.ntmps27
  go_wp2_with fail
  generalize w.alloc (.cells #[.int .i64 x.f0, .int .i64 x.f1, .int .i64 x.f2, .int .i64 x.f3, .int .i64 x.f4, .slice A5 x.f5.length c5, .int .i64 x.f6, .int .i64 x.f7] 55) = w1 at *
  obtain ⟨xb, hxb⟩ : ∃ xb, xb = w.heap.size := ⟨_, rfl⟩
  rw [← hxb] at HBX ⊢
  have x4 : w1.cell? ⟨xb, 4, none⟩ = some (.int .i64 x.f4) := (blk_cell HBX.out 4).trans rfl
  have x5 : w1.cell? ⟨xb, 5, none⟩ = some (.slice A5 x.f5.length c5) := (blk_cell HBX.out 5).trans rfl
  have l0 := HL.out
  have y4 := HY.out
  have g0 := HG.out
  have r0 := HR.out
  have HXB := am hxb
  clear hxb
  have dd0 : w1.drew.cell? ⟨xb, 4, none⟩ = some (.int .i64 x.f4) := x4
  have dd1 : w1.drew.cell? ⟨xb, 5, none⟩ = some (.slice A5 x.f5.length c5) := x5
  have dd2 : w1.drew.cell? ⟨bL, 0, none⟩ = some (.slice (some ad) n c) := l0
  have dd3 : w1.drew.cell? ⟨ad.block, ad.off + 4, none⟩ = some (.int .i64 cy) := y4
  have dd4 : w1.drew.cell? ⟨bG, 0, none⟩ = some (.int .i64 g) := g0
  have dd5 : w1.drew.cell? ⟨bR, 0, none⟩ = some (.int .i64 r) := r0
  refine start_ (n := 16) (S := fun w' => w'.cell? ⟨xb, 4, none⟩ = some (.int .i64 x.f4) ∧ w'.cell? ⟨xb, 5, none⟩ = some (.slice A5 x.f5.length c5) ∧ w'.cell? ⟨bL, 0, none⟩ = some (.slice (some ad) n c) ∧ w'.cell? ⟨ad.block, ad.off + 4, none⟩ = some (.int .i64 cy) ∧ w'.cell? ⟨bG, 0, none⟩ = some (.int .i64 g) ∧ w'.cell? ⟨bR, 0, none⟩ = some (.int .i64 r)) (ds := []) #[false, false, false, false, false, false, false, false, false, false, false, false, false, false, false, false] (by kernel_rfl) rfl rfl ⟨dd0, dd1, dd2, dd3, dd4, dd5⟩ (fun hHeld => ?_)
  refine pu 0 6 ?_
  refine tk6 1 7 ?_
  refine tk6 2 8 ?_
  refine pu 3 9 ?_
  refine pu 4 10 ?_
  refine tk6 5 11 ?_
  refine pu 6 12 ?_
  refine pu 7 13 ?_
  refine pu 8 14 ?_
  refine tk6 9 15 ?_
  refine tk6 10 16 ?_
  refine tk6 12 18 ?_
  refine on 11 17 (fun K hK => ?_)
  refine goes_ Tryz.func25 (by kernel_rfl) rfl #[.slice A5 x.f5.length c5, .int .i64 g] (by rfl) rfl rfl lm ?_
  with_reducible refine (ages_Root.calls kr A5 c5 x.f5 g rx _ (Kd.C_below HX.out.1 HB.out.drew) HX.out.2 HK.out).mono ?_
  rintro e w3 ⟨rfl, hb3⟩
  have HBE := am (HB.out.drew.trans (hb3.mono (Nat.le_trans HB.out.size (Nat.le_refl _))))
  have z0 := (hb3.cell (c_lt dd0)).trans dd0
  have z1 := (hb3.cell (c_lt dd1)).trans dd1
  have z2 := (hb3.cell (c_lt dd2)).trans dd2
  have z3 := (hb3.cell (c_lt dd3)).trans dd3
  have z4 := (hb3.cell (c_lt dd4)).trans dd4
  have z5 := (hb3.cell (c_lt dd5)).trans dd5
  clear hb3
  refine ⟨_, rfl, ?_⟩
  clear hHeld
  refine hK.out _ _ ⟨z0, z1, z2, z3, z4, z5⟩ (fun hHeld => ?_)
  clear hK K
  refine norm_ (a' := ?_) ?_ ?_
  rotate_left
  ·show Act.put _ (some 17) _ = _
   simp only [Act.put, sAa, sBb, sCc, i64_w, i32_w]
   rfl
  refine pu 13 19 ?_
  refine pu 14 20 ?_
  refine pu 15 5 ?_
  refine done_ (by kernel_rfl) ?_
  clear hHeld
  try go_wp2_with fail
  go_ret
  exact ⟨rfl, HBE.out⟩
 ·have b4 : (x.f4 != cy) = true := by simp [h4]
  rw [show offBase cy g r x = true by unfold offBase; rw [if_neg h4]]
  clear h4
  go_enter Tryz.func27, Tryz.ntmps27
  go_wp2_with fail
  generalize w.alloc (.cells #[.int .i64 x.f0, .int .i64 x.f1, .int .i64 x.f2, .int .i64 x.f3, .int .i64 x.f4, .slice A5 x.f5.length c5, .int .i64 x.f6, .int .i64 x.f7] 55) = w1 at *
  obtain ⟨xb, hxb⟩ : ∃ xb, xb = w.heap.size := ⟨_, rfl⟩
  rw [← hxb] at HBX ⊢
  have x4 : w1.cell? ⟨xb, 4, none⟩ = some (.int .i64 x.f4) := (blk_cell HBX.out 4).trans rfl
  have x5 : w1.cell? ⟨xb, 5, none⟩ = some (.slice A5 x.f5.length c5) := (blk_cell HBX.out 5).trans rfl
  have l0 := HL.out
  have y4 := HY.out
  have g0 := HG.out
  have r0 := HR.out
  have HXB := am hxb
  clear hxb
  go_quiet (fail)
  go_wp2_with fail
  go_ret
  exact ⟨rfl, pw_below_drewN HB.out nq⟩
def allSyn (l : List S37) : List S55 := l.flatMap fun x => syn x.f0
def baseV (g : Int) (l : List S37) : Int × Bool :=
 if (l.any fun x => (syn x.f0).isEmpty) = true then (-1, false) else
 match allSyn l with
 | [] => (-1, false)
 | y :: t => if Rt.root y.f5 g < 0 then (-1, false) else if (y :: t).any (offBase y.f4 g (Rt.root y.f5 g)) = true then (-1, false) else (Rt.root y.f5 g, true)
theorem allSyn_take {l : List S37} {k : Nat} (h : k < l.length) : allSyn (l.take (k + 1)) = allSyn (l.take k) ++ syn (l[k]).f0 := by
 unfold allSyn
 rw [List.take_succ_eq_append_getElem h, List.flatMap_append]
 simp
theorem allSyn_len {l : List S37} (h : ∀ x ∈ l, x.f0.length ≤ 1000) : (allSyn l).length ≤ l.length * 1000 := by
 induction l with
 | nil => simp [allSyn]
 | cons x t ih =>
  have h1 := h x (by simp)
  have h2 := syn_len x.f0
  have h3 := ih (fun y hy => h y (by simp [hy]))
  have e : allSyn (x :: t) = syn x.f0 ++ allSyn t := by simp [allSyn]
  rw [e, List.length_append, List.length_cons, Nat.add_mul]
  omega
structure BsI (w W : World) (CC : Array Value) (bC bL : Nat) (v : Value) (ns : List S55) : Prop where
 n : Kd.N k55 55 W w.heap.size (fun q => q ≠ bC ∧ q ≠ bL) v ns
 c : W.heap[bC]? = some (.cells CC 25 (0, 0))
 l : W.heap[bL]? = some (.cells #[v] 32 (0, 0))
 b : Below w.heap.size w W
 d : w.heap.size ≤ bC ∧ w.heap.size ≤ bL ∧ bC ≠ bL
theorem BsI.step {w W W2 : World} {CC : Array Value} {bC bL : Nat} {v : Value} {ns : List S55} (h : BsI w W CC bC bL v ns) (k : Below W.heap.size W W2) : BsI w W2 CC bC bL v ns :=
 ⟨Kd.N_below h.n k, (k.block bC (blk_lt h.c)).trans h.c, (k.block bL (blk_lt h.l)).trans h.l, below_step h.b k, h.d⟩
theorem N_F {W : World} {base : Nat} {ok : Nat → Prop} {A : Option Addr} {n c : Nat} {ns : List S55} (h : Kd.N k55 55 W base ok (.slice A n c) ns) : Kd.F k55 W ok A ns.length ns := fun W' hW => (Kd.N_reads' (Kd.N_step h hW)).2.2
structure Bs2 (w W : World) (oR : Option Nat) : Prop where
 b : Below w.heap.size w W
 r : ∀ q, oR = some q → W.heap[q]? = some (.cells #[.int .i64 0] 3 (0, 0)) ∧ w.heap.size ≤ q
theorem Bs2.step {w W W2 : World} {oR : Option Nat} (h : Bs2 w W oR) (k : Below W.heap.size W W2) : Bs2 w W2 oR := ⟨below_step h.b k, fun q e => ⟨(k.block q (blk_lt (h.r q e).1)).trans (h.r q e).1, (h.r q e).2⟩⟩
theorem Bs2.new {w W : World} (h : Bs2 w W none) : Bs2 w (W.alloc (.cells #[.int .i64 0] 3)) (some W.heap.size) := ⟨below_alloc h.b _, fun q e => by injection e with e; subst e; exact ⟨heap_alloc_new W _, h.b.size⟩⟩
theorem enter_bs (args : Array Value) (w : World) : (callFunc 27 args).run Tryz.prog w = .ok (.enter 27 args) w := entersT Tryz.func27 (by decide +kernel) rfl args w
theorem bs_cells {w W : World} {oR : Option Nat} {bL bG n c d : Nat} {ad : Addr} {B : Option Addr} {cy g : Int} {m : Nat} (h : Bs2 w W oR) (e : w.cell? ⟨bL, 0, none⟩ = some (.slice (some ad) n c) ∧ w.cell? ⟨ad.block, ad.off + 4, none⟩ = some (.int .i64 cy) ∧ w.cell? ⟨ad.block, ad.off + 5, none⟩ = some (.slice B m d) ∧ w.cell? ⟨bG, 0, none⟩ = some (.int .i64 g)) : W.cell? ⟨bL, 0, none⟩ = some (.slice (some ad) n c) ∧ W.cell? ⟨ad.block, ad.off + 4, none⟩ = some (.int .i64 cy) ∧ W.cell? ⟨ad.block, ad.off + 5, none⟩ = some (.slice B m d) ∧ W.cell? ⟨bG, 0, none⟩ = some (.int .i64 g) := ⟨(h.b.cell (c_lt e.1)).trans e.1, (h.b.cell (c_lt e.2.1)).trans e.2.1, (h.b.cell (c_lt e.2.2.1)).trans e.2.2.1, (h.b.cell (c_lt e.2.2.2)).trans e.2.2.2⟩
set_option maxHeartbeats 8000000 in
theorem base_walk (A0 : Option Addr) (c0 : Nat) (P : List S68) (A1 : Option Addr) (c1 : Nat) (L : List S71) (a2 a3 a4 a5 a6 a7 a8 a9 a10 a11 a12 : Int) (A : Option Addr) (c : Nat) (l : List S37) (g : Int) (w : World) (hN : NetAt w P A0 c0 L A1 c1) (hC : Kd.C k37 w A l.length l) (hl : l.length ≤ 1000) (hx : ∀ x ∈ l, x.f0.length ≤ 1000 ∧ x.f1.f2.length ≤ 1000000)
  (hG : ∀ W : World, Below w.heap.size w W → NetAt W P A0 c0 L A1 c1 → Calls Tryz.prog 24 #[.agg #[.slice A0 P.length c0, .slice A1 L.length c1, .int .i64 a2, .int .i64 a3, .int .i64 a4, .int .i64 a5, .int .i64 a6, .int .i64 a7, .int .i64 a8, .int .i64 a9, .int .i64 a10, .int .i64 a11, .int .i64 a12]] W fun e w' => e = .returned (.int .i64 g) ∧ Below W.heap.size W w') :
  Calls Tryz.prog 9 #[.agg #[.slice A0 P.length c0, .slice A1 L.length c1, .int .i64 a2, .int .i64 a3, .int .i64 a4, .int .i64 a5, .int .i64 a6, .int .i64 a7, .int .i64 a8, .int .i64 a9, .int .i64 a10, .int .i64 a11, .int .i64 a12], .slice A l.length c] w fun e w' => e = .returned (.tuple #[.int .i64 (baseV g l).1, .bool (baseV g l).2]) ∧ Below w.heap.size w w' := by
 have HN := am hN
 have HC := am hC
 have HL := am hl
 have HX := am hx
 have HG := am hG
 clear hN hC hl hx hG
 have b1 := below_alloc (Below.refl w.heap.size w) (.cells #[.slice A0 P.length c0, .slice A1 L.length c1, .int .i64 a2, .int .i64 a3, .int .i64 a4, .int .i64 a5, .int .i64 a6, .int .i64 a7, .int .i64 a8, .int .i64 a9, .int .i64 a10, .int .i64 a11, .int .i64 a12] 25)
 have b2 := below_alloc b1 (.cells #[.slice none 0 0] 32)
 have hsz : (w.alloc (.cells #[.slice A0 P.length c0, .slice A1 L.length c1, .int .i64 a2, .int .i64 a3, .int .i64 a4, .int .i64 a5, .int .i64 a6, .int .i64 a7, .int .i64 a8, .int .i64 a9, .int .i64 a10, .int .i64 a11, .int .i64 a12] 25)).heap.size = w.heap.size + 1 := Array.size_push _
 have k1 := ((below_alloc (Below.refl _ _) (.cells #[.slice none 0 0] 32)).block w.heap.size (blk_lt (heap_alloc_new w (.cells #[.slice A0 P.length c0, .slice A1 L.length c1, .int .i64 a2, .int .i64 a3, .int .i64 a4, .int .i64 a5, .int .i64 a6, .int .i64 a7, .int .i64 a8, .int .i64 a9, .int .i64 a10, .int .i64 a11, .int .i64 a12] 25)))).trans (heap_alloc_new w (.cells #[.slice A0 P.length c0, .slice A1 L.length c1, .int .i64 a2, .int .i64 a3, .int .i64 a4, .int .i64 a5, .int .i64 a6, .int .i64 a7, .int .i64 a8, .int .i64 a9, .int .i64 a10, .int .i64 a11, .int .i64 a12] 25))
 have k2 := heap_alloc_new (w.alloc (.cells #[.slice A0 P.length c0, .slice A1 L.length c1, .int .i64 a2, .int .i64 a3, .int .i64 a4, .int .i64 a5, .int .i64 a6, .int .i64 a7, .int .i64 a8, .int .i64 a9, .int .i64 a10, .int .i64 a11, .int .i64 a12] 25)) (.cells #[.slice none 0 0] 32)
 rw [hsz] at k2
 have HI : Aside0 (BsI w ((w.alloc (.cells #[.slice A0 P.length c0, .slice A1 L.length c1, .int .i64 a2, .int .i64 a3, .int .i64 a4, .int .i64 a5, .int .i64 a6, .int .i64 a7, .int .i64 a8, .int .i64 a9, .int .i64 a10, .int .i64 a11, .int .i64 a12] 25)).alloc (.cells #[.slice none 0 0] 32)) #[.slice A0 P.length c0, .slice A1 L.length c1, .int .i64 a2, .int .i64 a3, .int .i64 a4, .int .i64 a5, .int .i64 a6, .int .i64 a7, .int .i64 a8, .int .i64 a9, .int .i64 a10, .int .i64 a11, .int .i64 a12] w.heap.size (w.heap.size + 1) (.slice none 0 0) []) := ⟨⟨Kd.R_N (Kd.R_nil _ _ _ _ _), k1, k2, b2, by omega, by omega, by omega⟩⟩
 clear b1 b2 k1 k2
 go_enter Tryz.func9, Tryz.ntmps9
 go_wp2_with fail
 clear hsz
 generalize (w.alloc (.cells #[.slice A0 P.length c0, .slice A1 L.length c1, .int .i64 a2, .int .i64 a3, .int .i64 a4, .int .i64 a5, .int .i64 a6, .int .i64 a7, .int .i64 a8, .int .i64 a9, .int .i64 a10, .int .i64 a11, .int .i64 a12] 25)).alloc (.cells #[.slice none 0 0] 32) = w1 at *
 obtain ⟨bC, hbC⟩ : ∃ bC, bC = w.heap.size := ⟨_, rfl⟩
 obtain ⟨bL, hbL⟩ : ∃ bL, bL = w.heap.size + 1 := ⟨_, rfl⟩
 have HI2 : Aside0 (BsI w w1 #[.slice A0 P.length c0, .slice A1 L.length c1, .int .i64 a2, .int .i64 a3, .int .i64 a4, .int .i64 a5, .int .i64 a6, .int .i64 a7, .int .i64 a8, .int .i64 a9, .int .i64 a10, .int .i64 a11, .int .i64 a12] bC bL (.slice none 0 0) []) := ⟨by rw [hbC, hbL]; exact HI.out⟩
 rw [← hbL, ← hbC]
 clear hbL hbC HI
 have HI := HI2
 clear HI2
 go_loopg [14] (l.length + 1) (fun kq v14 wr => ∃ (k : Nat) (vL : Value), v14 = .int .i64 k ∧ Aside0 (kq + k = l.length + 1 ∧ k ≤ l.length) ∧ Aside0 (BsI w wr #[.slice A0 P.length c0, .slice A1 L.length c1, .int .i64 a2, .int .i64 a3, .int .i64 a4, .int .i64 a5, .int .i64 a6, .int .i64 a7, .int .i64 a8, .int .i64 a9, .int .i64 a10, .int .i64 a11, .int .i64 a12] bC bL vL (allSyn (l.take k))) ∧ Aside0 (∀ (j : Nat) (h : j < l.length), j < k → (syn (l[j]).f0).isEmpty = false))
 case atStart => exact ⟨0, .slice none 0 0, rfl, ⟨by omega⟩, HI, ⟨fun _ _ h => absurd h (Nat.not_lt_zero _)⟩⟩
 case round =>
  clear HI
  obtain ⟨k, vL, rfl, HK, HI, HS⟩ := hrel
  cases gk with
  | zero => exact absurd HK.out (by omega)
  | succ k1 =>
  have hlL := HL.out
  by_cases hk : k < l.length
  ·have d1 : decide (k < l.length) = true := dT hk
   have w1i : wrap64 ((k : Int) + 1) = ((k + 1 : Nat) : Int) := by unfold wrap64; omega
   obtain ⟨ad, Ai, ci, Aj, cj, e, y0, y1, y2, y3, hc5, hC5, hc6, hC6⟩ := at_T37 HC.out (k : Int) (by omega) (by omega)
   cases e
   have hrd : rd_T37 l (k : Int) = l[k] := by simp [rd_T37, hk]
   have hy : l[k] ∈ l := List.getElem_mem hk
   rw [hrd] at y0 y1 y2 y3 hc5 hC5 hc6 hC6
   have HXk := am (HX.out _ hy)
   have hsn := allSyn_take hk
   obtain ⟨y, hyy⟩ : ∃ y, y = l[k] := ⟨_, rfl⟩
   rw [← hyy] at y0 y1 y2 y3 hc5 hC5 hc6 hC6 HXk hsn
   have HSN := am hsn
   have HYY := am hyy
   have H5 := am (And.intro (And.intro hC5 hc5) (And.intro hC6 hc6))
   simp only [Int.toNat_natCast] at y0 y1 y2 y3
   have z0 := (HI.out.b.cell (c_lt y0)).trans y0
   have z1 := (HI.out.b.cell (c_lt y1)).trans y1
   have z2 := (HI.out.b.cell (c_lt y2)).trans y2
   have z3 := (HI.out.b.cell (c_lt y3)).trans y3
   clear y0 y1 y2 y3 hc5 hC5 hc6 hC6 hy hrd hsn hyy
   go_upto_region 5 with fail
   have HI1 := am (HI.out.step (below_alloc (Below.refl _ _) (.cells #[.slice Ai y.f0.length ci, .bool y.f1.f0, .int .i64 y.f1.f1, .slice Aj y.f1.f2.length cj] 37)))
   have HBX := am (heap_alloc_new wr (.cells #[.slice Ai y.f0.length ci, .bool y.f1.f0, .int .i64 y.f1.f1, .slice Aj y.f1.f2.length cj] 37))
   clear z0 z1 z2 z3 d1 HI
   generalize wr.alloc (.cells #[.slice Ai y.f0.length ci, .bool y.f1.f0, .int .i64 y.f1.f1, .slice Aj y.f1.f2.length cj] 37) = w2 at *
   obtain ⟨x0, x1, x2, x3⟩ := cellsK4 HBX.out
   go_wp2_with fail
   clear x0 x1 x2 x3
   obtain ⟨ks, hks⟩ := (synced_evl (l := y.f0) (by have := HXk.out; omega) y.f1.f0 y.f1.f1 y.f1.f2).some_
   refine (watch_synced.calls ks (fun q => q < w.heap.size) Ai ci y.f0 y.f1.f0 y.f1.f1 Aj cj y.f1.f2 _ w2 (Kd.V_mk H5.out.1.2 (Kd.F_below (Kd.C_F k55_heap H5.out.1.1) HI1.out.b)) (Kd.C_below H5.out.2.1 HI1.out.b) H5.out.2.2 hks).mono ?_
   rintro e w3 ⟨v9, rfl, ho9, hb⟩
   obtain ⟨A9, c9, rfl⟩ := Kd.N_slice ho9
   have HI3 := am (HI1.out.step hb)
   have HFS := am (N_F ho9)
   have l1 := blk_lt HI1.out.c
   have l2 := blk_lt HI1.out.l
   have l3 := HI1.out.d
   have l4 := blk_lt HI3.out.c
   have l5 := blk_lt HI3.out.l
   have l6 := HI1.out.b.size
   have hNL := Kd.N_lt HI1.out.n
   have hNB := Kd.N_base HI1.out.n
   have HOK : Aside0 (∀ q, (q < w.heap.size ∨ w2.heap.size ≤ q) → (q ≠ bC ∧ q ≠ bL) ∧ some q ≠ vL.ownBlock) := ⟨fun q hq => ⟨⟨by omega, by omega⟩, fun e => by have h1 := hNL q e.symm; have h2 := hNB q e.symm; omega⟩⟩
   have HFR : Aside0 (∀ q, w3.heap.size ≤ q → q ≠ bC ∧ q ≠ bL) := ⟨fun q hq => ⟨by omega, by omega⟩⟩
   have HBS := am HI3.out.b.size
   have hlt := allSyn_len (l := l.take k) (fun x hx => (HX.out x (List.mem_of_mem_take hx)).1)
   have hlt2 : (l.take k).length ≤ 1000 := Nat.le_trans (List.length_take_le _ _) (by omega)
   have hlt3 := Nat.le_trans (syn_len y.f0) HXk.out.1
   have HLT : Aside0 ((allSyn (l.take k)).length ≤ 1000000 ∧ (syn y.f0).length ≤ 1000) := ⟨⟨Nat.le_trans hlt (by omega), hlt3⟩⟩
   clear hb ho9 HI1 l1 l2 l3 l4 l5 l6 hNL hNB hlt hlt2 hlt3
   generalize hs : syn y.f0 = s at *
   have HSS := am hs
   clear hs
   by_cases he : s = []
   ·have e0 : ((s.length : Int) == 0) = true := by simp [he]
    have HE := am he
    clear he
    go_wp2_with fail
    go_ret2
    refine ⟨?_, HI3.out.b⟩
    have hv : baseV g l = (-1, false) := by
     unfold baseV
     rw [if_pos]
     exact List.any_eq_true.2 ⟨l[k], List.getElem_mem hk, by rw [← HYY.out, HSS.out, HE.out]; rfl⟩
    rw [hv]
    rfl
   ·have e0 : ((s.length : Int) == 0) = false := by have := List.length_pos_iff.2 he; simp; omega
    have HE := am he
    clear he
    have o0 : w3.cell? ⟨bL, 0, none⟩ = some vL := (blk_cell HI3.out.l 0).trans rfl
    have of0 := blk_frozen HI3.out.l 0
    obtain ⟨Av, cv, e⟩ := Kd.N_slice HI3.out.n
    subst e
    go_wp2_with (refine Kd.N_append_rows k55 (w0 := w) w.heap.size rfl (.tmp 23) (.tmp 24) 32 55 (.agg #[(.int .i64 0), (.int .i64 0), (.int .i64 0), (.int .i64 0), (.int .i64 0), (.slice none 0 0), (.int .i64 0), (.int .i64 0)]) 80 rfl Tryz.underlying32 info55 rfl (by decide) (by omega) (.slice Av (allSyn (l.take k)).length cv) (allSyn (l.take k)) s A9 s.length c9 (fun q => q ≠ bC ∧ q ≠ bL) (fun q => q < w.heap.size ∨ w2.heap.size ≤ q) rfl rfl HI3.out.n HFS.out HOK.out HFR.out HI3.out.b HBS.out (by have := HLT.out; omega) ?_; intro v1 w5 ho hbb hg hat; obtain ⟨Ax, cx, ex⟩ := Kd.N_slice ho; subst ex; have HO5 := am ho; have HB5 := am hbb; have of5 := blk_frozen (blk_grown HI3.out.l hg (fun e => (HI3.out.n.1 bL e.symm).2 rfl)) 0; have o5 := (blk_cell (blk_grown HI3.out.l hg (fun e => (HI3.out.n.1 bL e.symm).2 rfl)) 0).trans rfl; have HL5 := am (blk_grown HI3.out.l hg (fun e => (HI3.out.n.1 bL e.symm).2 rfl)); have HC5 := am (blk_grown HI3.out.c hg (fun e => (HI3.out.n.1 bC e.symm).1 rfl)); clear ho hbb hg hat o0 of0; skip)
    have HI6 : Aside0 (BsI w (w5.setCell ⟨bL, 0, none⟩ (.slice Ax (allSyn (l.take k) ++ s).length cx)) #[.slice A0 P.length c0, .slice A1 L.length c1, .int .i64 a2, .int .i64 a3, .int .i64 a4, .int .i64 a5, .int .i64 a6, .int .i64 a7, .int .i64 a8, .int .i64 a9, .int .i64 a10, .int .i64 a11, .int .i64 a12] bC bL (.slice Ax (allSyn (l.take k) ++ s).length cx) (allSyn (l.take k) ++ s)) := ⟨⟨Kd.N_far HO5.out (fun q hq => hq.2) _, blk_far HC5.out HI3.out.d.2.2 _, blk_put HL5.out 0 _ rfl, below_set HB5.out HI3.out.d.2.1, HI3.out.d⟩⟩
    rw [List.length_append] at HI6
    go_roundg k1
    case measure => have := HK.out; omega
    case rel => exact ⟨k + 1, .slice Ax ((allSyn (l.take k)).length + s.length) cx, by first | rfl | (congr 1), ⟨by have := HK.out; omega⟩, ⟨by rw [HSN.out]; exact HI6.out⟩, ⟨fun j hj hlt => by
     by_cases e : j = k
     ·subst e; rw [← HYY.out, HSS.out]; cases s with
      | nil => exact absurd rfl HE.out
      | cons _ _ => rfl
     ·exact HS.out j hj (by omega)⟩⟩
  ·have hkl : k = l.length := by have := HK.out; omega
   have d1 : decide (k < l.length) = false := dF hk
   have hany : (l.any fun x => (syn x.f0).isEmpty) = false := by
    rw [Bool.eq_false_iff]
    intro h
    obtain ⟨x, hx, he⟩ := List.any_eq_true.1 h
    obtain ⟨j, hj, e⟩ := List.getElem_of_mem hx
    have h2 := HS.out j hj (by omega)
    rw [e] at h2
    rw [h2] at he
    cases he
   have HBV : Aside0 (baseV g l = match allSyn l with | [] => (-1, false) | y :: t => if Rt.root y.f5 g < 0 then (-1, false) else if (y :: t).any (offBase y.f4 g (Rt.root y.f5 g)) = true then (-1, false) else (Rt.root y.f5 g, true)) := ⟨by unfold baseV; rw [if_neg (by rw [hany]; decide)]⟩
   have hlt := allSyn_len (l := l) (fun x hx => (HX.out x hx).1)
   have HLN : Aside0 ((allSyn l).length ≤ 1000000) := ⟨Nat.le_trans hlt (by omega)⟩
   have htk : l.take k = l := by rw [hkl]; exact List.take_length
   rw [htk] at HI
   clear hany hlt htk hkl hk HS
   generalize allSyn l = ns at *
   obtain ⟨Av, cv, e⟩ := Kd.N_slice HI.out.n
   subst e
   have o0 : wr.cell? ⟨bL, 0, none⟩ = some (.slice Av ns.length cv) := (blk_cell HI.out.l 0).trans rfl
   cases ns with
   | nil =>
    go_wp2_with fail
    go_ret2
    refine ⟨?_, HI.out.b⟩
    rw [HBV.out]
    rfl
   | cons y t =>
    obtain ⟨ns, hns⟩ : ∃ ns, y :: t = ns := ⟨_, rfl⟩
    have HNS := am hns
    have hn0 : 0 < ns.length := by rw [← hns]; simp
    rw [hns] at o0 HI HLN
    have e0 : ((ns.length : Int) == 0) = false := beq_eq_false_iff_ne.mpr (by omega)
    have HN0 := am hn0
    clear hns hn0
    obtain ⟨n0, n1, n2, n3, n4, n5, n6, n7, n8, n9, n10, n11, n12⟩ := cellsK13 HI.out.c
    go_wp2_with fail
    refine (HG.out wr HI.out.b (HN.out.below HI.out.b)).mono ?_
    rintro e w6 ⟨rfl, hb⟩
    have HI6 := am (HI.out.step hb)
    clear hb HI o0 n0 n1 n2 n3 n4 n5 n6 n7 n8 n9 n10 n11 n12 d1
    go_upto_region 13 with fail
    clear e0
    have HI7 := am (HI6.out.step (below_alloc (Below.refl _ _) (.cells #[.int .i64 g] 3)))
    have HBG := am (heap_alloc_new w6 (.cells #[.int .i64 g] 3))
    clear HI6
    generalize w6.alloc (.cells #[.int .i64 g] 3) = w7 at *
    obtain ⟨bG, hbG⟩ : ∃ bG, bG = w6.heap.size := ⟨_, rfl⟩
    rw [← hbG] at HBG
    rw [← hbG]
    clear hbG
    obtain ⟨ad2, B5, d5, e, _, _, _, _, y4, y5, _, _, hd5, hD5⟩ := at_T55 (Kd.N_reads' HI7.out.n).2.2 0 (by omega) (by have := HN0.out; omega)
    cases e
    have hrd : rd_T55 ns 0 = y := by rw [← HNS.out]; simp [rd_T55]
    rw [hrd] at y4 y5 hd5 hD5
    have e4 : w7.cell? ⟨ad2.block, ad2.off + 4, none⟩ = some (.int .i64 y.f4) := by simpa [Addr.add] using y4
    have e5 : w7.cell? ⟨ad2.block, ad2.off + 5, none⟩ = some (.slice B5 y.f5.length d5) := by simpa [Addr.add] using y5
    have o0 : w7.cell? ⟨bL, 0, none⟩ = some (.slice (some ad2) ns.length cv) := (blk_cell HI7.out.l 0).trans rfl
    have g0 : w7.cell? ⟨bG, 0, none⟩ = some (.int .i64 g) := (blk_cell HBG.out 0).trans rfl
    have E0 := am (And.intro o0 (And.intro e4 (And.intro e5 g0)))
    have HD5 := am (And.intro hD5 hd5)
    obtain ⟨kr, hkr⟩ := (Rt.root_evl y.f5 g).some_
    have HKR := am hkr
    have p1n : 0 < ns.length := HN0.out
    clear y4 y5 hrd hd5 hD5 hkr o0 e4 e5 g0
    have HQ : Aside0 (Bs2 w7 w7.drew none) := ⟨⟨(Below.refl _ _).drew, fun _ h => (by cases h)⟩⟩
    generalize hrt : Rt.root y.f5 g = rt at *
    have HRT := am hrt
    clear hrt
    refine start_ (n := 8) (S := fun w' => w'.cell? ⟨bL, 0, none⟩ = some (.slice (some ad2) ns.length cv) ∧ w'.cell? ⟨ad2.block, ad2.off + 4, none⟩ = some (.int .i64 y.f4) ∧ w'.cell? ⟨ad2.block, ad2.off + 5, none⟩ = some (.slice B5 y.f5.length d5) ∧ w'.cell? ⟨bG, 0, none⟩ = some (.int .i64 g)) (ds := [7]) #[false, false, false, false, false, false, false, false] (by kernel_rfl) rfl rfl ((bs_cells HQ.out E0.out)) (fun hHeld => ?_)
    refine tk1 0 32 ?_
    refine pu 1 33 ?_
    refine pu 2 34 ?_
    refine tk1 3 35 ?_
    refine tk1 4 36 ?_
    refine join_ (σ := Nat) 1 #[true, true, true, true, true, true, true, false] (fun s_ => [(37, .int .i64 rt), (11, .pointer (some ⟨s_, 0, none⟩))]) (fun s_ w' => (w'.cell? ⟨bL, 0, none⟩ = some (.slice (some ad2) ns.length cv) ∧ w'.cell? ⟨ad2.block, ad2.off + 4, none⟩ = some (.int .i64 y.f4) ∧ w'.cell? ⟨ad2.block, ad2.off + 5, none⟩ = some (.slice B5 y.f5.length d5) ∧ w'.cell? ⟨bG, 0, none⟩ = some (.int .i64 g)) ∧ Bs2 w7 w' (some s_)) ?_ ?_
    rotate_left
    ·intro hJ5_6
     refine join_ (σ := Unit) 2 #[true, true, true, true, true, true, false, false] (fun _ => [(37, .int .i64 rt)]) (fun _ w' => (w'.cell? ⟨bL, 0, none⟩ = some (.slice (some ad2) ns.length cv) ∧ w'.cell? ⟨ad2.block, ad2.off + 4, none⟩ = some (.int .i64 y.f4) ∧ w'.cell? ⟨ad2.block, ad2.off + 5, none⟩ = some (.slice B5 y.f5.length d5) ∧ w'.cell? ⟨bG, 0, none⟩ = some (.int .i64 g)) ∧ Bs2 w7 w' none) ?_ ?_
     rotate_left
     ·intro hJ5
      refine join_ (σ := Nat) 2 #[true, true, true, true, true, false, true, false] (fun s_ => [(11, .pointer (some ⟨s_, 0, none⟩))]) (fun s_ w' => (w'.cell? ⟨bL, 0, none⟩ = some (.slice (some ad2) ns.length cv) ∧ w'.cell? ⟨ad2.block, ad2.off + 4, none⟩ = some (.int .i64 y.f4) ∧ w'.cell? ⟨ad2.block, ad2.off + 5, none⟩ = some (.slice B5 y.f5.length d5) ∧ w'.cell? ⟨bG, 0, none⟩ = some (.int .i64 g)) ∧ Bs2 w7 w' (some s_)) ?_ ?_
      rotate_left
      ·intro hJ6
       refine two_ (i := 5) (j := 6) (Ni := some 37) (Nj := some 11) #[true, true, true, true, true, true, false, false] #[true, true, true, true, true, false, true, false] rfl rfl rfl rfl (by kernel_rfl) (by decide) (by decide) (fun K hK => ?_) (fun K hK => ?_)
       ·skip
        refine goes_ Tryz.func25 (by kernel_rfl) rfl #[.slice B5 y.f5.length d5, .int .i64 g] (by rfl) rfl rfl lm ?_
        with_reducible refine (ages_Root.calls kr B5 d5 y.f5 g rt _ (Kd.C_below HD5.out.1 HQ.out.b) HD5.out.2 HKR.out).mono ?_
        rintro e w9 ⟨rfl, hb9⟩
        refine ⟨_, rfl, ?_⟩
        clear hHeld
        refine hK.out _ _ ((bs_cells (HQ.out.step hb9) E0.out)) (fun hHeld => ?_)
        clear hK K
        refine norm_ (a' := ?_) ?_ ?_
        rotate_left
        ·show Act.put _ (some 37) _ = _
         simp only [Act.put, sAa, sBb, sCc, i64_w, i32_w]
         rfl
        exact norm_ (by first | (simp only [putAll, Act.put, sAa, sBb, sCc]; done) | (simp only [putAll, Act.put, sAa, sBb, sCc]; rfl)) (hJ5 () _ ⟨hHeld, (HQ.out.step hb9)⟩)
       ·skip
        refine value_ (w1 := ?_) (v := ?_) (by rfl) rfl ?_ ?_
        rotate_left 2
        ·go_simp
         constructor
         ·rfl
         ·rfl
        clear hHeld
        refine hK.out _ _ ((bs_cells HQ.out.new E0.out)) (fun hHeld => ?_)
        clear hK K
        refine norm_ (a' := ?_) ?_ ?_
        rotate_left
        ·show Act.put _ (some 11) _ = _
         simp only [Act.put, sAa, sBb, sCc, i64_w, i32_w]
         rfl
        exact norm_ (by first | (simp only [putAll, Act.put, sAa, sBb, sCc]; done) | (simp only [putAll, Act.put, sAa, sBb, sCc]; rfl)) (hJ6 _ _ ⟨hHeld, HQ.out.new⟩)
      ·skip
       rintro gR w8 ⟨hHeld, hq⟩
       try clear HQ
       have HQ := am hq
       clear hq
       refine norm_ (a' := ?_) ?_ ?_
       rotate_left
       ·simp only [putAll, Act.put, sAa, sBb, sCc]
        rfl
       refine on 5 37 (fun K hK => ?_)
       refine goes_ Tryz.func25 (by kernel_rfl) rfl #[.slice B5 y.f5.length d5, .int .i64 g] (by rfl) rfl rfl lm ?_
       with_reducible refine (ages_Root.calls kr B5 d5 y.f5 g rt _ (Kd.C_below HD5.out.1 HQ.out.b) HD5.out.2 HKR.out).mono ?_
       rintro e w9 ⟨rfl, hb9⟩
       refine ⟨_, rfl, ?_⟩
       clear hHeld
       refine hK.out _ _ ((bs_cells (HQ.out.step hb9) E0.out)) (fun hHeld => ?_)
       clear hK K
       refine norm_ (a' := ?_) ?_ ?_
       rotate_left
       ·show Act.put _ (some 37) _ = _
        simp only [Act.put, sAa, sBb, sCc, i64_w, i32_w]
        rfl
       exact norm_ (by first | (simp only [putAll, Act.put, sAa, sBb, sCc]; done) | (simp only [putAll, Act.put, sAa, sBb, sCc]; rfl)) (hJ5_6 gR _ ⟨hHeld, (HQ.out.step hb9)⟩)
     ·skip
      rintro _ w8 ⟨hHeld, hq⟩
      try clear HQ
      have HQ := am hq
      clear hq
      refine norm_ (a' := ?_) ?_ ?_
      rotate_left
      ·simp only [putAll, Act.put, sAa, sBb, sCc]
       rfl
      refine on 6 11 (fun K hK => ?_)
      refine value_ (w1 := ?_) (v := ?_) (by rfl) rfl ?_ ?_
      rotate_left 2
      ·go_simp
       constructor
       ·rfl
       ·rfl
      clear hHeld
      refine hK.out _ _ ((bs_cells HQ.out.new E0.out)) (fun hHeld => ?_)
      clear hK K
      refine norm_ (a' := ?_) ?_ ?_
      rotate_left
      ·show Act.put _ (some 11) _ = _
       simp only [Act.put, sAa, sBb, sCc, i64_w, i32_w]
       rfl
      exact norm_ (by first | (simp only [putAll, Act.put, sAa, sBb, sCc]; done) | (simp only [putAll, Act.put, sAa, sBb, sCc]; rfl)) (hJ5_6 _ _ ⟨hHeld, HQ.out.new⟩)
    rintro gR w8 ⟨hHeld, hq⟩
    try clear HQ
    have HQ := am hq
    clear hq
    refine norm_ (a' := ?_) ?_ ?_
    rotate_left
    ·simp only [putAll, Act.put, sAa, sBb, sCc]
     rfl
    refine lan 7 (fun K hK => ?_)
    have rc0 : w8.cell? ⟨gR, 0, none⟩ = some (.int .i64 0) := (blk_cell (HQ.out.r gR rfl).1 0).trans rfl
    have rf0 := blk_frozen (HQ.out.r gR rfl).1 0
    refine skip_ (w1 := ?_) (by rfl) rfl ?_ ?_
    rotate_left
    ·go_simp
     rfl
    refine hK.out _ _ ?_
    clear hK K
    refine done_ (by kernel_rfl) ?_
    clear hHeld
    have hgr := HQ.out.r gR rfl
    have l1 := blk_lt HI7.out.l
    have l2 := blk_lt HBG.out
    have l3 : ad2.block < w7.heap.size := c_lt (a := ⟨ad2.block, ad2.off + 4, none⟩) E0.out.2.1
    have H9 : Aside0 (Below w7.heap.size w7 (w8.setCell ⟨gR, 0, none⟩ (.int .i64 rt))) := ⟨below_set HQ.out.b hgr.2⟩
    have r0 : (w8.setCell ⟨gR, 0, none⟩ (.int .i64 rt)).cell? ⟨gR, 0, none⟩ = some (.int .i64 rt) := (blk_cell (blk_put hgr.1 0 (.int .i64 rt) rfl) 0).trans rfl
    have HR0 := am r0
    have HB9 := am (below_step HI7.out.b H9.out)
    have HC9 : Aside0 (Kd.C k55 (w8.setCell ⟨gR, 0, none⟩ (.int .i64 rt)) (some ad2) ns.length ns) := ⟨Kd.C_below (Kd.N_reads' HI7.out.n).2.2 H9.out⟩
    clear hHeld hgr l1 l2 l3 HQ r0
    generalize w8.setCell ⟨gR, 0, none⟩ (.int .i64 rt) = w10 at *
    have o0 := (H9.out.cell (c_lt E0.out.1)).trans E0.out.1
    have r0 := HR0.out
    by_cases hr : rt < 0
    ·have dr : decide (rt < 0) = true := dT hr
     have HV : Aside0 (baseV g l = (-1, false)) := ⟨by rw [HBV.out, if_pos hr]⟩
     clear hr
     go_wp2_with fail
     go_ret2
     refine ⟨?_, HB9.out⟩
     rw [HV.out]
     rfl
    ·have dr : decide (rt < 0) = false := dF hr
     have HV : Aside0 (baseV g l = if ns.any (offBase y.f4 g rt) = true then (-1, false) else (rt, true)) := ⟨by rw [HBV.out, if_neg hr, HNS.out]⟩
     clear hr
     go_wp2_with fail
     clear o0 r0
     refine (containsNode (offBase y.f4 g rt) 27 #[.pointer (some ⟨bL, 0, none⟩), .pointer (some ⟨bG, 0, none⟩), .pointer (some ⟨gR, 0, none⟩)] enter_bs (some ad2) cv ns w10 HC9.out HLN.out (fun W x A5 c5 hm hB hC hc => ?_)).mono ?_
     ·exact offBase_walk x y.f4 g rt A5 c5 ad2 ns.length cv bL bG gR W HN0.out hC hc ((hB.cell (c_lt ((H9.out.cell (c_lt E0.out.1)).trans E0.out.1))).trans ((H9.out.cell (c_lt E0.out.1)).trans E0.out.1)) ((hB.cell (c_lt ((H9.out.cell (c_lt E0.out.2.1)).trans E0.out.2.1))).trans ((H9.out.cell (c_lt E0.out.2.1)).trans E0.out.2.1)) ((hB.cell (c_lt ((H9.out.cell (c_lt E0.out.2.2.2)).trans E0.out.2.2.2))).trans ((H9.out.cell (c_lt E0.out.2.2.2)).trans E0.out.2.2.2)) ((hB.cell (c_lt HR0.out)).trans HR0.out)
     rintro e w11 ⟨rfl, hb⟩
     have HB11 := am (below_step HB9.out hb)
     have r1 := (hb.cell (c_lt HR0.out)).trans HR0.out
     clear hb
     generalize ns.any (offBase y.f4 g rt) = qz at HV ⊢
     cases qz with
     | true =>
      go_wp2_with fail
      go_ret2
      refine ⟨?_, HB11.out⟩
      rw [HV.out]
      rfl
     | false =>
      go_wp2_with fail
      go_ret2
      refine ⟨?_, HB11.out⟩
      rw [HV.out]
      rfl
end Go.Proofs.YtbefbhghmommhaaGreatDoor.MWo
