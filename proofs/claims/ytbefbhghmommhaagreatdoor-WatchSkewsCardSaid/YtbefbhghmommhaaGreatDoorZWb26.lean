/- Texts of this claim, laid together by a program (wip/g/merge3.py): HWs. -/
import Derived.Test.YtbefbhghmommhaaGreatDoorZWb25
import Derived.Test.YtbefbhghmommhaaGreatDoorZWb6
import Derived.Test.YtbefbhghmommhaaGreatDoorZWb7
import Derived.Deep.DeepCutAuto
set_option linter.unusedVariables false
set_option linter.unusedSimpArgs false
set_option maxRecDepth 100000
namespace Go.Proofs.YtbefbhghmommhaaGreatDoor.MWo
open Go.RowKit Go.Proofs.YtbefbhghmommhaaGreatDoorW.PrintWords Go.Proofs.YtbefbhghmommhaaGreatDoorW.PrintLast Go.Proofs.YtbefbhghmommhaaGreatDoorW.PrintMore Go.Proofs.YtbefbhghmommhaaGreatDoor.Evl
theorem byte_bd {x : Int} (h : (Lit.int .u8 x).wf = true) : 0 ≤ x ∧ x ≤ 255 := by
 have e1 : IntKind.u8.min = 0 := rfl
 have e2 : IntKind.u8.max = 255 := rfl
 simp only [Lit.wf, Bool.and_eq_true, decide_eq_true_eq] at h
 omega
theorem wspread_evl' {l : List S55} (hl : l.length ≤ 1000000) (a1 : Bool) (a2 : Int) (l3 : List Int) : Evl (fun k => watch_Spread.f k l a1 a2 l3) ((sprd ((syn l).map (·.f3))).1, (sprd ((syn l).map (·.f3))).2) := by
 unfold watch_Spread.f
 refine Evl.bind (starts_evl hl a1 a2 l3) ?_
 have e1 : gauge_Spread.f ((syn l).map (·.f3)) = some ((sprd ((syn l).map (·.f3))).1, (sprd ((syn l).map (·.f3))).2) := if_pos (by have := syn_len l; rw [List.length_map]; omega)
 simp only [e1, Option.bind_some]
 exact Evl.now fun _ => rfl
structure SkI (w W : World) (bA bB bC : Nat) (CA CB CC : Array Value) (oX oY : Option Nat) : Prop where
 b : Below w.heap.size w W
 a : W.heap[bA]? = some (.cells CA 37 (0, 0))
 b' : W.heap[bB]? = some (.cells CB 37 (0, 0))
 c : W.heap[bC]? = some (.cells CC 25 (0, 0))
 l : bA < w.heap.size ∧ bB < w.heap.size ∧ bC < w.heap.size
 x : ∀ g, oX = some g → W.heap[g]? = some (.cells #[.slice none 0 0, .bool false, .int .i64 0, .slice none 0 0] 37 (0, 0)) ∧ w.heap.size ≤ g
 y : ∀ g, oY = some g → W.heap[g]? = some (.cells #[.slice none 0 0, .bool false, .int .i64 0, .slice none 0 0] 37 (0, 0)) ∧ w.heap.size ≤ g
 xy : ∀ g h, oX = some g → oY = some h → g ≠ h
section
variable {w W W2 : World} {bA bB bC : Nat} {CA CB CC : Array Value} {oX oY : Option Nat}
theorem SkI.step (h : SkI w W bA bB bC CA CB CC oX oY) (k : Below W.heap.size W W2) : SkI w W2 bA bB bC CA CB CC oX oY :=
 ⟨below_step h.b k, (k.block bA (blk_lt h.a)).trans h.a, (k.block bB (blk_lt h.b')).trans h.b', (k.block bC (blk_lt h.c)).trans h.c, h.l, fun g e => ⟨(k.block g (blk_lt (h.x g e).1)).trans (h.x g e).1, (h.x g e).2⟩, fun g e => ⟨(k.block g (blk_lt (h.y g e).1)).trans (h.y g e).1, (h.y g e).2⟩, h.xy⟩
theorem SkI.newX (h : SkI w W bA bB bC CA CB CC none oY) : SkI w (W.alloc (.cells #[.slice none 0 0, .bool false, .int .i64 0, .slice none 0 0] 37)) bA bB bC CA CB CC (some W.heap.size) oY := by
 have h2 := h.step (below_alloc (Below.refl _ _) (.cells #[.slice none 0 0, .bool false, .int .i64 0, .slice none 0 0] 37))
 exact ⟨h2.b, h2.a, h2.b', h2.c, h2.l, fun g e => by injection e with e; subst e; exact ⟨heap_alloc_new W _, h.b.size⟩, h2.y, fun g q e1 e2 => by injection e1 with e1; have := blk_lt (h.y q e2).1; omega⟩
theorem SkI.newY (h : SkI w W bA bB bC CA CB CC oX none) : SkI w (W.alloc (.cells #[.slice none 0 0, .bool false, .int .i64 0, .slice none 0 0] 37)) bA bB bC CA CB CC oX (some W.heap.size) := by
 have h2 := h.step (below_alloc (Below.refl _ _) (.cells #[.slice none 0 0, .bool false, .int .i64 0, .slice none 0 0] 37))
 exact ⟨h2.b, h2.a, h2.b', h2.c, h2.l, h2.x, fun g e => by injection e with e; subst e; exact ⟨heap_alloc_new W _, h.b.size⟩, fun g q e1 e2 => by injection e2 with e2; have := blk_lt (h.x g e1).1; omega⟩
end
structure SkV where
 r : S37
 A : Option Addr
 c : Nat
 A3 : Option Addr
 c3 : Nat
abbrev SkV.v (s : SkV) : Value := .agg #[.slice s.A s.r.f0.length s.c, .bool s.r.f1.f0, .int .i64 s.r.f1.f1, .slice s.A3 s.r.f1.f2.length s.c3]
structure SkV.Ok (s : SkV) (m : Nat) (Pn : S55 → Prop) (Pl : List Int → Prop) (W : World) (oX oY : Option Nat) : Prop where
 f : CellF W (fun q => oX ≠ some q ∧ oY ≠ some q) s.r s.A s.c s.A3 s.c3
 d : MdR m Pn Pl s.r
section
variable {s : SkV} {m : Nat} {Pn : S55 → Prop} {Pl : List Int → Prop} {W W2 : World} {oX oY : Option Nat}
theorem SkV.Ok.step (h : s.Ok m Pn Pl W oX oY) (k : Below W.heap.size W W2) : s.Ok m Pn Pl W2 oX oY := ⟨h.f.step k, h.d⟩
theorem SkV.Ok.newX (h : s.Ok m Pn Pl W none oY) (ob : Obj) : s.Ok m Pn Pl (W.alloc ob) (some W.heap.size) oY :=
 ⟨(h.f.bound.mono fun q hq => ⟨fun e => by injection e with e; have := hq.2; omega, hq.1.2⟩).step (below_alloc (Below.refl _ _) ob), h.d⟩
theorem SkV.Ok.newY (h : s.Ok m Pn Pl W oX none) (ob : Obj) : s.Ok m Pn Pl (W.alloc ob) oX (some W.heap.size) :=
 ⟨(h.f.bound.mono fun q hq => ⟨hq.1.1, fun e => by injection e with e; have := hq.2; omega⟩).step (below_alloc (Below.refl _ _) ob), h.d⟩
theorem skv_made {w W2 : World} {bA bB bC : Nat} {CA CB CC : Array Value} (h : SkI w W bA bB bC CA CB CC oX oY) {r : S37} {A : Option Addr} {c : Nat} {A3 : Option Addr} {c3 : Nat} (hf : CellF W2 (fun q => W.heap.size ≤ q) r A c A3 c3) (hd : MdR m Pn Pl r) : (⟨r, A, c, A3, c3⟩ : SkV).Ok m Pn Pl W2 oX oY :=
 ⟨hf.mono fun q hq => ⟨fun e => by have := blk_lt (h.x q e).1; omega, fun e => by have := blk_lt (h.y q e).1; omega⟩, hd⟩
theorem SkV.Ok.farX {g : Nat} (h : s.Ok m Pn Pl W (some g) oY) (i : Nat) (u : Value) : s.Ok m Pn Pl (W.setCell ⟨g, i, none⟩ u) (some g) oY := ⟨h.f.far (fun q hq e => hq.1 (by rw [e])) u, h.d⟩
theorem SkV.Ok.farY {g : Nat} (h : s.Ok m Pn Pl W oX (some g)) (i : Nat) (u : Value) : s.Ok m Pn Pl (W.setCell ⟨g, i, none⟩ u) oX (some g) := ⟨h.f.far (fun q hq e => hq.2 (by rw [e])) u, h.d⟩
end
structure SkJ (w W : World) (bC gX gY : Nat) (CC CX CY : Array Value) : Prop where
 b : Below w.heap.size w W
 c : W.heap[bC]? = some (.cells CC 25 (0, 0))
 x : W.heap[gX]? = some (.cells CX 37 (0, 0))
 y : W.heap[gY]? = some (.cells CY 37 (0, 0))
 d : bC < w.heap.size ∧ w.heap.size ≤ gX ∧ w.heap.size ≤ gY ∧ gX ≠ gY
theorem SkI.j {w W : World} {bA bB bC gX gY : Nat} {CA CB CC : Array Value} (h : SkI w W bA bB bC CA CB CC (some gX) (some gY)) : SkJ w W bC gX gY CC #[.slice none 0 0, .bool false, .int .i64 0, .slice none 0 0] #[.slice none 0 0, .bool false, .int .i64 0, .slice none 0 0] := ⟨h.b, h.c, (h.x gX rfl).1, (h.y gY rfl).1, h.l.2.2, (h.x gX rfl).2, (h.y gY rfl).2, h.xy gX gY rfl rfl⟩
section
variable {w W W2 : World} {bC gX gY : Nat} {CC CX CY : Array Value}
theorem SkJ.putX (h : SkJ w W bC gX gY CC CX CY) (i : Nat) (u : Value) {C' : Array Value} (e : CX.setIfInBounds i u = C') : SkJ w (W.setCell ⟨gX, i, none⟩ u) bC gX gY CC C' CY :=
 ⟨below_set h.b h.d.2.1, blk_far h.c (show bC ≠ gX by have := h.d; omega) u, blk_put h.x i u e, blk_far h.y (Ne.symm h.d.2.2.2) u, h.d⟩
theorem SkJ.putY (h : SkJ w W bC gX gY CC CX CY) (i : Nat) (u : Value) {C' : Array Value} (e : CY.setIfInBounds i u = C') : SkJ w (W.setCell ⟨gY, i, none⟩ u) bC gX gY CC CX C' :=
 ⟨below_set h.b h.d.2.2.1, blk_far h.c (show bC ≠ gY by have := h.d; omega) u, blk_far h.x h.d.2.2.2 u, blk_put h.y i u e, h.d⟩
theorem SkJ.step (h : SkJ w W bC gX gY CC CX CY) (k : Below W.heap.size W W2) : SkJ w W2 bC gX gY CC CX CY :=
 ⟨below_step h.b k, (k.block bC (blk_lt h.c)).trans h.c, (k.block gX (blk_lt h.x)).trans h.x, (k.block gY (blk_lt h.y)).trans h.y, h.d⟩
end
theorem sk_cells {w W : World} {bA bB bC : Nat} {oX oY : Option Nat} {x y : S37} {A A3 B B3 AP AQ : Option Addr} {c c3 d d3 cP cQ : Nat} {P : List S68} {Q : List S71} {cyc wd dr ag lo li sp : Int} (h : SkI w W bA bB bC #[.slice A x.f0.length c, .bool x.f1.f0, .int .i64 x.f1.f1, .slice A3 x.f1.f2.length c3] #[.slice B y.f0.length d, .bool y.f1.f0, .int .i64 y.f1.f1, .slice B3 y.f1.f2.length d3] #[.slice AP P.length cP, .slice AQ Q.length cQ, .int .i64 cyc, .int .i64 60, .int .i64 100, .int .i64 wd, .int .i64 dr, .int .i64 300000, .int .i64 ag, .int .i64 lo, .int .i64 li, .int .i64 sp, .int .i64 12] oX oY) : W.cell? ⟨bA, 0, none⟩ = some (.slice A x.f0.length c) ∧ W.cell? ⟨bA, 1, none⟩ = some (.bool x.f1.f0) ∧ W.cell? ⟨bA, 2, none⟩ = some (.int .i64 x.f1.f1) ∧ W.cell? ⟨bA, 3, none⟩ = some (.slice A3 x.f1.f2.length c3) ∧ W.cell? ⟨bB, 0, none⟩ = some (.slice B y.f0.length d) ∧ W.cell? ⟨bB, 1, none⟩ = some (.bool y.f1.f0) ∧ W.cell? ⟨bB, 2, none⟩ = some (.int .i64 y.f1.f1) ∧ W.cell? ⟨bB, 3, none⟩ = some (.slice B3 y.f1.f2.length d3) ∧ W.cell? ⟨bC, 0, none⟩ = some (.slice AP P.length cP) ∧ W.cell? ⟨bC, 1, none⟩ = some (.slice AQ Q.length cQ) ∧ W.cell? ⟨bC, 2, none⟩ = some (.int .i64 cyc) ∧ W.cell? ⟨bC, 3, none⟩ = some (.int .i64 60) ∧ W.cell? ⟨bC, 4, none⟩ = some (.int .i64 100) ∧ W.cell? ⟨bC, 5, none⟩ = some (.int .i64 wd) ∧ W.cell? ⟨bC, 6, none⟩ = some (.int .i64 dr) ∧ W.cell? ⟨bC, 7, none⟩ = some (.int .i64 300000) ∧ W.cell? ⟨bC, 8, none⟩ = some (.int .i64 ag) ∧ W.cell? ⟨bC, 9, none⟩ = some (.int .i64 lo) ∧ W.cell? ⟨bC, 10, none⟩ = some (.int .i64 li) ∧ W.cell? ⟨bC, 11, none⟩ = some (.int .i64 sp) ∧ W.cell? ⟨bC, 12, none⟩ = some (.int .i64 12) :=
 ⟨(blk_cell h.a 0).trans rfl, (blk_cell h.a 1).trans rfl, (blk_cell h.a 2).trans rfl, (blk_cell h.a 3).trans rfl, (blk_cell h.b' 0).trans rfl, (blk_cell h.b' 1).trans rfl, (blk_cell h.b' 2).trans rfl, (blk_cell h.b' 3).trans rfl, (blk_cell h.c 0).trans rfl, (blk_cell h.c 1).trans rfl, (blk_cell h.c 2).trans rfl, (blk_cell h.c 3).trans rfl, (blk_cell h.c 4).trans rfl, (blk_cell h.c 5).trans rfl, (blk_cell h.c 6).trans rfl, (blk_cell h.c 7).trans rfl, (blk_cell h.c 8).trans rfl, (blk_cell h.c 9).trans rfl, (blk_cell h.c 10).trans rfl, (blk_cell h.c 11).trans rfl, (blk_cell h.c 12).trans rfl⟩
set_option maxHeartbeats 8000000 in
theorem skews_walk (n pt : Int) (x y : S37) (A : Option Addr) (c : Nat) (A3 : Option Addr) (c3 : Nat) (B : Option Addr) (d : Nat) (B3 : Option Addr) (d3 : Nat) (w : World) (hx : CellAt w x A c A3 c3) (hy : CellAt w y B d B3 d3) (hpt : 0 ≤ pt ∧ pt ≤ 255) :
  Calls Tryz.prog 4 #[.int .i64 n, .int .u8 pt, .agg (cellV x A c A3 c3), .agg (cellV y B d B3 d3)] w fun e w' => e = .returned (.bool true) ∧ Below w.heap.size w w' := by
 have HPT := am hpt
 clear hpt
 have HX := am hx
 have HY := am hy
 clear hx hy
 have b1 := below_alloc (Below.refl w.heap.size w) (.cells (cellV x A c A3 c3) 37)
 have b2 := below_alloc b1 (.cells (cellV y B d B3 d3) 37)
 have hsz : (w.alloc (.cells (cellV x A c A3 c3) 37)).heap.size = w.heap.size + 1 := Array.size_push _
 have HBA : Aside0 (((w.alloc (.cells (cellV x A c A3 c3) 37)).alloc (.cells (cellV y B d B3 d3) 37)).heap[w.heap.size]? = some (.cells (cellV x A c A3 c3) 37 (0, 0))) := ⟨((below_alloc (Below.refl _ _) _).block w.heap.size (blk_lt (heap_alloc_new w _))).trans (heap_alloc_new w _)⟩
 have HBB : Aside0 (((w.alloc (.cells (cellV x A c A3 c3) 37)).alloc (.cells (cellV y B d B3 d3) 37)).heap[w.heap.size + 1]? = some (.cells (cellV y B d B3 d3) 37 (0, 0))) := ⟨by have h := heap_alloc_new (w.alloc (.cells (cellV x A c A3 c3) 37)) (.cells (cellV y B d B3 d3) 37); rwa [hsz] at h⟩
 have HB := am b2
 clear b1 b2
 go_enter Tryz.func4, Tryz.ntmps4
 go_wp2_with fail
 clear hsz
 generalize (w.alloc (.cells (cellV x A c A3 c3) 37)).alloc (.cells (cellV y B d B3 d3) 37) = w1 at *
 refine (alive_walk w1).mono ?_
 rintro e w2 ⟨rfl, hb⟩
 have HB_ := am (below_step HB.out hb)
 have HBA_ := am ((hb.block w.heap.size (blk_lt HBA.out)).trans HBA.out)
 have HBB_ := am ((hb.block (w.heap.size + 1) (blk_lt HBB.out)).trans HBB.out)
 clear HB HBA HBB
 have HB := HB_
 have HBA := HBA_
 have HBB := HBB_
 clear HB_ HBA_ HBB_
 clear hb
 have ca0 : w2.cell? ⟨w.heap.size, 0, none⟩ = some (.slice A x.f0.length c) := (blk_cell HBA.out 0).trans rfl
 have cb0 : w2.cell? ⟨w.heap.size + 1, 0, none⟩ = some (.slice B y.f0.length d) := (blk_cell HBB.out 0).trans rfl
 have ca1 : w2.cell? ⟨w.heap.size, 1, none⟩ = some (.bool x.f1.f0) := (blk_cell HBA.out 1).trans rfl
 have cb1 : w2.cell? ⟨w.heap.size + 1, 1, none⟩ = some (.bool y.f1.f0) := (blk_cell HBB.out 1).trans rfl
 have ca2 : w2.cell? ⟨w.heap.size, 2, none⟩ = some (.int .i64 x.f1.f1) := (blk_cell HBA.out 2).trans rfl
 have cb2 : w2.cell? ⟨w.heap.size + 1, 2, none⟩ = some (.int .i64 y.f1.f1) := (blk_cell HBB.out 2).trans rfl
 have ca3 : w2.cell? ⟨w.heap.size, 3, none⟩ = some (.slice A3 x.f1.f2.length c3) := (blk_cell HBA.out 3).trans rfl
 have cb3 : w2.cell? ⟨w.heap.size + 1, 3, none⟩ = some (.slice B3 y.f1.f2.length d3) := (blk_cell HBB.out 3).trans rfl
 go_wp2_with fail
 clear ca0 cb0 ca1 cb1 ca2 cb2 ca3 cb3
 have HS := heap_alloc_new w2 (.cells #[.slice A x.f0.length c, .bool x.f1.f0, .int .i64 x.f1.f1, .slice A3 x.f1.f2.length c3, .slice B y.f0.length d, .bool y.f1.f0, .int .i64 y.f1.f1, .slice B3 y.f1.f2.length d3] 37)
 have hb3 := below_alloc (Below.refl w2.heap.size w2) (.cells #[.slice A x.f0.length c, .bool x.f1.f0, .int .i64 x.f1.f1, .slice A3 x.f1.f2.length c3, .slice B y.f0.length d, .bool y.f1.f0, .int .i64 y.f1.f1, .slice B3 y.f1.f2.length d3] 37)
 have HB_ := am (below_step HB.out hb3)
 have HBA_ := am ((hb3.block w.heap.size (blk_lt HBA.out)).trans HBA.out)
 have HBB_ := am ((hb3.block (w.heap.size + 1) (blk_lt HBB.out)).trans HBB.out)
 clear HB HBA HBB
 have HB := HB_
 have HBA := HBA_
 have HBB := HBB_
 clear HB_ HBA_ HBB_
 clear hb3
 generalize w2.alloc (.cells #[.slice A x.f0.length c, .bool x.f1.f0, .int .i64 x.f1.f1, .slice A3 x.f1.f2.length c3, .slice B y.f0.length d, .bool y.f1.f0, .int .i64 y.f1.f1, .slice B3 y.f1.f2.length d3] 37) = w3 at *
 have hk := two_cells (HX.out.below HB.out) (HY.out.below HB.out) HS
 clear HS
 obtain ⟨ks, hks⟩ := (small_evl [x, y]).some_
 refine (dl28_small.calls ks (some ⟨w2.heap.size, 0, none⟩) 2 [x, y] _ w3 hk (Nat.le_refl 2) hks).mono ?_
 rintro e w4 ⟨rfl, hd4⟩
 have hb4 := hd4.below
 clear hk hks hd4
 have HB_ := am (below_step HB.out hb4)
 have HBA_ := am ((hb4.block w.heap.size (blk_lt HBA.out)).trans HBA.out)
 have HBB_ := am ((hb4.block (w.heap.size + 1) (blk_lt HBB.out)).trans HBB.out)
 clear HB HBA HBB
 have HB := HB_
 have HBA := HBA_
 have HBB := HBB_
 clear HB_ HBA_ HBB_
 clear hb4
 have HSM : Aside0 (smallB [x, y] = smallB [x, y]) := ⟨rfl⟩
 cases hsm : smallB [x, y] with
 | false =>
  go_wp2_with fail
  refine (alive_walk w4).mono ?_
  rintro e w5 ⟨rfl, hb⟩
  have HB5 := am (below_step HB.out hb)
  clear hb
  go_wp2_with fail
  go_ret
  exact ⟨rfl, HB5.out⟩
 | true =>
  have hm2 : smC x = true ∧ smC y = true := by simpa [smallB] using hsm
  have hm3 : CelOk x.f0 x.f1.f2 ∧ CelOk y.f0 y.f1.f2 := by
   have h1 := hm2.1
   have h2 := hm2.2
   simp only [smC, Bool.and_eq_true, decide_eq_true_eq, List.all_eq_true] at h1 h2
   exact ⟨⟨by omega, fun z hz => by have := h1.2.2 z hz; omega, by omega⟩, ⟨by omega, fun z hz => by have := h2.2.2 z hz; omega, by omega⟩⟩
  have HM := am hm3
  clear hsm HSM hm2 hm3
  go_wp2_with fail
  obtain ⟨q, s, cyc, dr, ag, lo, li, sp, hM, hMade⟩ := made_is n
  refine (dr26_Made.calls n _ _ _ _ _ _ _ _ _ _ _ _ _ w4 hMade).mono ?_
  have HMF := am (mdf_made hM)
  have HFT := am (fit_made hM)
  have HGO := am (gone_made hM).1
  have HLN := am (And.intro (len_made q s hM.hq.1 hM.hq.2 hM.hs).1 (And.intro hM.hq hM.hd))
  clear hM hMade
  generalize (madeNet q s).1 = P at *
  generalize (madeNet q s).2 = Q at *
  generalize 3 * Eg dr cyc = wd at *
  rintro e w5 ⟨vP, vQ, rfl, hP, hQ, hb⟩
  obtain ⟨AP, cP, rfl, hcP, hCP⟩ := Kd.R_reads hP
  obtain ⟨AQ, cQ, rfl, hcQ, hCQ⟩ := Kd.R_reads hQ
  have HB_ := am (below_step HB.out hb)
  have HBA_ := am ((hb.block w.heap.size (blk_lt HBA.out)).trans HBA.out)
  have HBB_ := am ((hb.block (w.heap.size + 1) (blk_lt HBB.out)).trans HBB.out)
  clear HB HBA HBB
  have HB := HB_
  have HBA := HBA_
  have HBB := HBB_
  clear HB_ HBA_ HBB_
  clear hb hP hQ
  go_upto_region 4 with fail
  have hbc := below_alloc (Below.refl w5.heap.size w5) (.cells #[.slice AP P.length cP, .slice AQ Q.length cQ, .int .i64 cyc, .int .i64 60, .int .i64 100, .int .i64 wd, .int .i64 dr, .int .i64 300000, .int .i64 ag, .int .i64 lo, .int .i64 li, .int .i64 sp, .int .i64 12] 25)
  have HBC := am (heap_alloc_new w5 (.cells #[.slice AP P.length cP, .slice AQ Q.length cQ, .int .i64 cyc, .int .i64 60, .int .i64 100, .int .i64 wd, .int .i64 dr, .int .i64 300000, .int .i64 ag, .int .i64 lo, .int .i64 li, .int .i64 sp, .int .i64 12] 25))
  have HN : Aside0 (NetAt (w5.alloc (.cells #[.slice AP P.length cP, .slice AQ Q.length cQ, .int .i64 cyc, .int .i64 60, .int .i64 100, .int .i64 wd, .int .i64 dr, .int .i64 300000, .int .i64 ag, .int .i64 lo, .int .i64 li, .int .i64 sp, .int .i64 12] 25)) P AP cP Q AQ cQ) := ⟨⟨Kd.C_below hCP hbc, hcP, Kd.C_below hCQ hbc, hcQ⟩⟩
  have HB_ := am (below_step HB.out hbc)
  have HBA_ := am ((hbc.block w.heap.size (blk_lt HBA.out)).trans HBA.out)
  have HBB_ := am ((hbc.block (w.heap.size + 1) (blk_lt HBB.out)).trans HBB.out)
  clear HB HBA HBB
  have HB := HB_
  have HBA := HBA_
  have HBB := HBB_
  clear HB_ HBA_ HBB_
  clear hbc hcP hCP hcQ hCQ
  generalize w5.alloc (.cells #[.slice AP P.length cP, .slice AQ Q.length cQ, .int .i64 cyc, .int .i64 60, .int .i64 100, .int .i64 wd, .int .i64 dr, .int .i64 300000, .int .i64 ag, .int .i64 lo, .int .i64 li, .int .i64 sp, .int .i64 12] 25) = w6 at *
  obtain ⟨bC, hbC⟩ : ∃ bC, bC = w5.heap.size := ⟨_, rfl⟩
  rw [← hbC] at HBC
  rw [← hbC]
  clear hbC
  obtain ⟨bB, hbB⟩ : ∃ bB, bB = w.heap.size + 1 := ⟨_, rfl⟩
  rw [← hbB] at HBB
  rw [← hbB]
  clear hbB
  have HI0 : SkI w6 w6.drew w.heap.size bB bC #[.slice A x.f0.length c, .bool x.f1.f0, .int .i64 x.f1.f1, .slice A3 x.f1.f2.length c3] #[.slice B y.f0.length d, .bool y.f1.f0, .int .i64 y.f1.f1, .slice B3 y.f1.f2.length d3] #[.slice AP P.length cP, .slice AQ Q.length cQ, .int .i64 cyc, .int .i64 60, .int .i64 100, .int .i64 wd, .int .i64 dr, .int .i64 300000, .int .i64 ag, .int .i64 lo, .int .i64 li, .int .i64 sp, .int .i64 12] none none := ⟨(Below.refl _ _).drew, blk_drew HBA.out, blk_drew HBB.out, blk_drew HBC.out, ⟨blk_lt HBA.out, blk_lt HBB.out, blk_lt HBC.out⟩, fun _ h => (by cases h), fun _ h => (by cases h), fun _ _ h => (by cases h)⟩
  have HI := am HI0
  have HXX := am (HX.out.below HB.out)
  have HYY := am (HY.out.below HB.out)
  clear HI0
  have g0 : w6.cell? ⟨bC, 0, none⟩ = some (.slice AP P.length cP) := (blk_cell HBC.out 0).trans rfl
  have hq0 : 0 < P.length := by have := HLN.out; omega
  have hq1 : ((P.length : Int) == 0) = false := by simp; intro h; rw [h] at hq0; simp at hq0
  have hp0 := HPT.out.1
  have hp1 := HPT.out.2
  go_upto_region 5 with fail
  clear g0 hq1 hp0 hp1
  obtain ⟨p, hp⟩ : ∃ p, p = pt % (P.length : Int) := ⟨_, rfl⟩
  rw [← hp]
  have HPP : Aside0 (0 ≤ p ∧ p < (P.length : Int)) := ⟨by rw [hp]; exact ⟨Int.emod_nonneg _ (by omega), Int.emod_lt_of_pos _ (by omega)⟩⟩
  clear hp hq0
  obtain ⟨m, hMF, hm⟩ := HMF.out p HPP.out.1 (by have := HPP.out; have := HLN.out; omega)
  have HMA := am hMF
  have HMB := am hm
  clear hMF hm HBA HBB HBC
  refine start_ (n := 12) (S := fun w' => w'.cell? ⟨w.heap.size, 0, none⟩ = some (.slice A x.f0.length c) ∧ w'.cell? ⟨w.heap.size, 1, none⟩ = some (.bool x.f1.f0) ∧ w'.cell? ⟨w.heap.size, 2, none⟩ = some (.int .i64 x.f1.f1) ∧ w'.cell? ⟨w.heap.size, 3, none⟩ = some (.slice A3 x.f1.f2.length c3) ∧ w'.cell? ⟨bB, 0, none⟩ = some (.slice B y.f0.length d) ∧ w'.cell? ⟨bB, 1, none⟩ = some (.bool y.f1.f0) ∧ w'.cell? ⟨bB, 2, none⟩ = some (.int .i64 y.f1.f1) ∧ w'.cell? ⟨bB, 3, none⟩ = some (.slice B3 y.f1.f2.length d3) ∧ w'.cell? ⟨bC, 0, none⟩ = some (.slice AP P.length cP) ∧ w'.cell? ⟨bC, 1, none⟩ = some (.slice AQ Q.length cQ) ∧ w'.cell? ⟨bC, 2, none⟩ = some (.int .i64 cyc) ∧ w'.cell? ⟨bC, 3, none⟩ = some (.int .i64 60) ∧ w'.cell? ⟨bC, 4, none⟩ = some (.int .i64 100) ∧ w'.cell? ⟨bC, 5, none⟩ = some (.int .i64 wd) ∧ w'.cell? ⟨bC, 6, none⟩ = some (.int .i64 dr) ∧ w'.cell? ⟨bC, 7, none⟩ = some (.int .i64 300000) ∧ w'.cell? ⟨bC, 8, none⟩ = some (.int .i64 ag) ∧ w'.cell? ⟨bC, 9, none⟩ = some (.int .i64 lo) ∧ w'.cell? ⟨bC, 10, none⟩ = some (.int .i64 li) ∧ w'.cell? ⟨bC, 11, none⟩ = some (.int .i64 sp) ∧ w'.cell? ⟨bC, 12, none⟩ = some (.int .i64 12)) (ds := [10, 11]) #[false, false, false, false, false, false, false, false, false, false, false, false] (by kernel_rfl) rfl rfl ((sk_cells HI.out)) (fun hHeld => ?_)
  refine pure_ (i := 1) (N := some 40) (v := ?_) (a' := ?_) #[false, true, false, false, false, false, false, false, false, false, false, false] rfl rfl (by kernel_rfl) (fun _ _ _ h => h) (Or.inl ⟨by rfl, ?_⟩) ?_ ?_
  rotate_left
  ·intro w'
   go_simp
   with_reducible rfl
  rotate_left
  ·simp only [Act.put, sAa, sBb, sCc, i64_w, i32_w]
   rfl
  refine pure_ (i := 5) (N := some 44) (v := ?_) (a' := ?_) #[false, true, false, false, false, true, false, false, false, false, false, false] rfl rfl (by kernel_rfl) (fun _ _ _ h => h) (Or.inl ⟨by rfl, ?_⟩) ?_ ?_
  rotate_left
  ·intro w'
   go_simp
   with_reducible rfl
  rotate_left
  ·simp only [Act.put, sAa, sBb, sCc, i64_w, i32_w]
   rfl
  refine take_ (i := 0) (N := some 39) (v := ?_) (a' := ?_) #[true, true, false, false, false, true, false, false, false, false, false, false] rfl rfl (by kernel_rfl) (fun _ _ _ h => h) (Or.inl ⟨by rfl, ?_⟩) hHeld ?_ ?_
  rotate_left
  ·intro w' s0
   go_simp
   with_reducible rfl
  rotate_left
  ·simp only [Act.put, sAa, sBb, sCc, i64_w, i32_w]
   rfl
  refine take_ (i := 2) (N := some 41) (v := ?_) (a' := ?_) #[true, true, true, false, false, true, false, false, false, false, false, false] rfl rfl (by kernel_rfl) (fun _ _ _ h => h) (Or.inl ⟨by rfl, ?_⟩) hHeld ?_ ?_
  rotate_left
  ·intro w' s0
   go_simp
   with_reducible rfl
  rotate_left
  ·simp only [Act.put, sAa, sBb, sCc, i64_w, i32_w]
   rfl
  refine take_ (i := 4) (N := some 43) (v := ?_) (a' := ?_) #[true, true, true, false, true, true, false, false, false, false, false, false] rfl rfl (by kernel_rfl) (fun _ _ _ h => h) (Or.inl ⟨by rfl, ?_⟩) hHeld ?_ ?_
  rotate_left
  ·intro w' s0
   go_simp
   with_reducible rfl
  rotate_left
  ·simp only [Act.put, sAa, sBb, sCc, i64_w, i32_w]
   rfl
  refine take_ (i := 6) (N := some 45) (v := ?_) (a' := ?_) #[true, true, true, false, true, true, true, false, false, false, false, false] rfl rfl (by kernel_rfl) (fun _ _ _ h => h) (Or.inl ⟨by rfl, ?_⟩) hHeld ?_ ?_
  rotate_left
  ·intro w' s0
   go_simp
   with_reducible rfl
  rotate_left
  ·simp only [Act.put, sAa, sBb, sCc, i64_w, i32_w]
   rfl
  refine join_ (σ := Nat × Nat × SkV × SkV) 2 #[true, true, true, true, true, true, true, true, true, true, false, false] (fun s_ => [(11, .pointer (some ⟨(s_.1), 0, none⟩)), (12, .pointer (some ⟨(s_.2.1), 0, none⟩)), (42, SkV.v (s_.2.2.1)), (46, SkV.v (s_.2.2.2))]) (fun s_ w' => (w'.cell? ⟨w.heap.size, 0, none⟩ = some (.slice A x.f0.length c) ∧ w'.cell? ⟨w.heap.size, 1, none⟩ = some (.bool x.f1.f0) ∧ w'.cell? ⟨w.heap.size, 2, none⟩ = some (.int .i64 x.f1.f1) ∧ w'.cell? ⟨w.heap.size, 3, none⟩ = some (.slice A3 x.f1.f2.length c3) ∧ w'.cell? ⟨bB, 0, none⟩ = some (.slice B y.f0.length d) ∧ w'.cell? ⟨bB, 1, none⟩ = some (.bool y.f1.f0) ∧ w'.cell? ⟨bB, 2, none⟩ = some (.int .i64 y.f1.f1) ∧ w'.cell? ⟨bB, 3, none⟩ = some (.slice B3 y.f1.f2.length d3) ∧ w'.cell? ⟨bC, 0, none⟩ = some (.slice AP P.length cP) ∧ w'.cell? ⟨bC, 1, none⟩ = some (.slice AQ Q.length cQ) ∧ w'.cell? ⟨bC, 2, none⟩ = some (.int .i64 cyc) ∧ w'.cell? ⟨bC, 3, none⟩ = some (.int .i64 60) ∧ w'.cell? ⟨bC, 4, none⟩ = some (.int .i64 100) ∧ w'.cell? ⟨bC, 5, none⟩ = some (.int .i64 wd) ∧ w'.cell? ⟨bC, 6, none⟩ = some (.int .i64 dr) ∧ w'.cell? ⟨bC, 7, none⟩ = some (.int .i64 300000) ∧ w'.cell? ⟨bC, 8, none⟩ = some (.int .i64 ag) ∧ w'.cell? ⟨bC, 9, none⟩ = some (.int .i64 lo) ∧ w'.cell? ⟨bC, 10, none⟩ = some (.int .i64 li) ∧ w'.cell? ⟨bC, 11, none⟩ = some (.int .i64 sp) ∧ w'.cell? ⟨bC, 12, none⟩ = some (.int .i64 12)) ∧ (SkI w6 w' w.heap.size bB bC #[.slice A x.f0.length c, .bool x.f1.f0, .int .i64 x.f1.f1, .slice A3 x.f1.f2.length c3] #[.slice B y.f0.length d, .bool y.f1.f0, .int .i64 y.f1.f1, .slice B3 y.f1.f2.length d3] #[.slice AP P.length cP, .slice AQ Q.length cQ, .int .i64 cyc, .int .i64 60, .int .i64 100, .int .i64 wd, .int .i64 dr, .int .i64 300000, .int .i64 ag, .int .i64 lo, .int .i64 li, .int .i64 sp, .int .i64 12] (some (s_.1)) (some (s_.2.1))) ∧ (SkV.Ok (s_.2.2.1) m (NodeOk q (ag + 1) dr) (AgeOk q (ag + 1)) w' (some (s_.1)) (some (s_.2.1))) ∧ (SkV.Ok (s_.2.2.2) m (NodeOk q (ag + 1) dr) (AgeOk q (ag + 1)) w' (some (s_.1)) (some (s_.2.1)))) ?_ ?_
  rotate_left
  ·intro hJ3_7_8_9
   refine join_ (σ := Nat × SkV × SkV) 3 #[true, true, true, true, true, true, true, true, true, false, false, false] (fun s_ => [(11, .pointer (some ⟨(s_.1), 0, none⟩)), (42, SkV.v (s_.2.1)), (46, SkV.v (s_.2.2))]) (fun s_ w' => (w'.cell? ⟨w.heap.size, 0, none⟩ = some (.slice A x.f0.length c) ∧ w'.cell? ⟨w.heap.size, 1, none⟩ = some (.bool x.f1.f0) ∧ w'.cell? ⟨w.heap.size, 2, none⟩ = some (.int .i64 x.f1.f1) ∧ w'.cell? ⟨w.heap.size, 3, none⟩ = some (.slice A3 x.f1.f2.length c3) ∧ w'.cell? ⟨bB, 0, none⟩ = some (.slice B y.f0.length d) ∧ w'.cell? ⟨bB, 1, none⟩ = some (.bool y.f1.f0) ∧ w'.cell? ⟨bB, 2, none⟩ = some (.int .i64 y.f1.f1) ∧ w'.cell? ⟨bB, 3, none⟩ = some (.slice B3 y.f1.f2.length d3) ∧ w'.cell? ⟨bC, 0, none⟩ = some (.slice AP P.length cP) ∧ w'.cell? ⟨bC, 1, none⟩ = some (.slice AQ Q.length cQ) ∧ w'.cell? ⟨bC, 2, none⟩ = some (.int .i64 cyc) ∧ w'.cell? ⟨bC, 3, none⟩ = some (.int .i64 60) ∧ w'.cell? ⟨bC, 4, none⟩ = some (.int .i64 100) ∧ w'.cell? ⟨bC, 5, none⟩ = some (.int .i64 wd) ∧ w'.cell? ⟨bC, 6, none⟩ = some (.int .i64 dr) ∧ w'.cell? ⟨bC, 7, none⟩ = some (.int .i64 300000) ∧ w'.cell? ⟨bC, 8, none⟩ = some (.int .i64 ag) ∧ w'.cell? ⟨bC, 9, none⟩ = some (.int .i64 lo) ∧ w'.cell? ⟨bC, 10, none⟩ = some (.int .i64 li) ∧ w'.cell? ⟨bC, 11, none⟩ = some (.int .i64 sp) ∧ w'.cell? ⟨bC, 12, none⟩ = some (.int .i64 12)) ∧ (SkI w6 w' w.heap.size bB bC #[.slice A x.f0.length c, .bool x.f1.f0, .int .i64 x.f1.f1, .slice A3 x.f1.f2.length c3] #[.slice B y.f0.length d, .bool y.f1.f0, .int .i64 y.f1.f1, .slice B3 y.f1.f2.length d3] #[.slice AP P.length cP, .slice AQ Q.length cQ, .int .i64 cyc, .int .i64 60, .int .i64 100, .int .i64 wd, .int .i64 dr, .int .i64 300000, .int .i64 ag, .int .i64 lo, .int .i64 li, .int .i64 sp, .int .i64 12] (some (s_.1)) none) ∧ (SkV.Ok (s_.2.1) m (NodeOk q (ag + 1) dr) (AgeOk q (ag + 1)) w' (some (s_.1)) none) ∧ (SkV.Ok (s_.2.2) m (NodeOk q (ag + 1) dr) (AgeOk q (ag + 1)) w' (some (s_.1)) none)) ?_ ?_
   rotate_left
   ·intro hJ3_7_8
    refine join_ (σ := Nat × SkV × SkV) 3 #[true, true, true, true, true, true, true, true, false, true, false, false] (fun s_ => [(12, .pointer (some ⟨(s_.1), 0, none⟩)), (42, SkV.v (s_.2.1)), (46, SkV.v (s_.2.2))]) (fun s_ w' => (w'.cell? ⟨w.heap.size, 0, none⟩ = some (.slice A x.f0.length c) ∧ w'.cell? ⟨w.heap.size, 1, none⟩ = some (.bool x.f1.f0) ∧ w'.cell? ⟨w.heap.size, 2, none⟩ = some (.int .i64 x.f1.f1) ∧ w'.cell? ⟨w.heap.size, 3, none⟩ = some (.slice A3 x.f1.f2.length c3) ∧ w'.cell? ⟨bB, 0, none⟩ = some (.slice B y.f0.length d) ∧ w'.cell? ⟨bB, 1, none⟩ = some (.bool y.f1.f0) ∧ w'.cell? ⟨bB, 2, none⟩ = some (.int .i64 y.f1.f1) ∧ w'.cell? ⟨bB, 3, none⟩ = some (.slice B3 y.f1.f2.length d3) ∧ w'.cell? ⟨bC, 0, none⟩ = some (.slice AP P.length cP) ∧ w'.cell? ⟨bC, 1, none⟩ = some (.slice AQ Q.length cQ) ∧ w'.cell? ⟨bC, 2, none⟩ = some (.int .i64 cyc) ∧ w'.cell? ⟨bC, 3, none⟩ = some (.int .i64 60) ∧ w'.cell? ⟨bC, 4, none⟩ = some (.int .i64 100) ∧ w'.cell? ⟨bC, 5, none⟩ = some (.int .i64 wd) ∧ w'.cell? ⟨bC, 6, none⟩ = some (.int .i64 dr) ∧ w'.cell? ⟨bC, 7, none⟩ = some (.int .i64 300000) ∧ w'.cell? ⟨bC, 8, none⟩ = some (.int .i64 ag) ∧ w'.cell? ⟨bC, 9, none⟩ = some (.int .i64 lo) ∧ w'.cell? ⟨bC, 10, none⟩ = some (.int .i64 li) ∧ w'.cell? ⟨bC, 11, none⟩ = some (.int .i64 sp) ∧ w'.cell? ⟨bC, 12, none⟩ = some (.int .i64 12)) ∧ (SkI w6 w' w.heap.size bB bC #[.slice A x.f0.length c, .bool x.f1.f0, .int .i64 x.f1.f1, .slice A3 x.f1.f2.length c3] #[.slice B y.f0.length d, .bool y.f1.f0, .int .i64 y.f1.f1, .slice B3 y.f1.f2.length d3] #[.slice AP P.length cP, .slice AQ Q.length cQ, .int .i64 cyc, .int .i64 60, .int .i64 100, .int .i64 wd, .int .i64 dr, .int .i64 300000, .int .i64 ag, .int .i64 lo, .int .i64 li, .int .i64 sp, .int .i64 12] none (some (s_.1))) ∧ (SkV.Ok (s_.2.1) m (NodeOk q (ag + 1) dr) (AgeOk q (ag + 1)) w' none (some (s_.1))) ∧ (SkV.Ok (s_.2.2) m (NodeOk q (ag + 1) dr) (AgeOk q (ag + 1)) w' none (some (s_.1)))) ?_ ?_
    rotate_left
    ·intro hJ3_7_9
     refine join_ (σ := Nat × Nat × SkV) 3 #[true, true, true, true, true, true, true, false, true, true, false, false] (fun s_ => [(11, .pointer (some ⟨(s_.1), 0, none⟩)), (12, .pointer (some ⟨(s_.2.1), 0, none⟩)), (42, SkV.v (s_.2.2))]) (fun s_ w' => (w'.cell? ⟨w.heap.size, 0, none⟩ = some (.slice A x.f0.length c) ∧ w'.cell? ⟨w.heap.size, 1, none⟩ = some (.bool x.f1.f0) ∧ w'.cell? ⟨w.heap.size, 2, none⟩ = some (.int .i64 x.f1.f1) ∧ w'.cell? ⟨w.heap.size, 3, none⟩ = some (.slice A3 x.f1.f2.length c3) ∧ w'.cell? ⟨bB, 0, none⟩ = some (.slice B y.f0.length d) ∧ w'.cell? ⟨bB, 1, none⟩ = some (.bool y.f1.f0) ∧ w'.cell? ⟨bB, 2, none⟩ = some (.int .i64 y.f1.f1) ∧ w'.cell? ⟨bB, 3, none⟩ = some (.slice B3 y.f1.f2.length d3) ∧ w'.cell? ⟨bC, 0, none⟩ = some (.slice AP P.length cP) ∧ w'.cell? ⟨bC, 1, none⟩ = some (.slice AQ Q.length cQ) ∧ w'.cell? ⟨bC, 2, none⟩ = some (.int .i64 cyc) ∧ w'.cell? ⟨bC, 3, none⟩ = some (.int .i64 60) ∧ w'.cell? ⟨bC, 4, none⟩ = some (.int .i64 100) ∧ w'.cell? ⟨bC, 5, none⟩ = some (.int .i64 wd) ∧ w'.cell? ⟨bC, 6, none⟩ = some (.int .i64 dr) ∧ w'.cell? ⟨bC, 7, none⟩ = some (.int .i64 300000) ∧ w'.cell? ⟨bC, 8, none⟩ = some (.int .i64 ag) ∧ w'.cell? ⟨bC, 9, none⟩ = some (.int .i64 lo) ∧ w'.cell? ⟨bC, 10, none⟩ = some (.int .i64 li) ∧ w'.cell? ⟨bC, 11, none⟩ = some (.int .i64 sp) ∧ w'.cell? ⟨bC, 12, none⟩ = some (.int .i64 12)) ∧ (SkI w6 w' w.heap.size bB bC #[.slice A x.f0.length c, .bool x.f1.f0, .int .i64 x.f1.f1, .slice A3 x.f1.f2.length c3] #[.slice B y.f0.length d, .bool y.f1.f0, .int .i64 y.f1.f1, .slice B3 y.f1.f2.length d3] #[.slice AP P.length cP, .slice AQ Q.length cQ, .int .i64 cyc, .int .i64 60, .int .i64 100, .int .i64 wd, .int .i64 dr, .int .i64 300000, .int .i64 ag, .int .i64 lo, .int .i64 li, .int .i64 sp, .int .i64 12] (some (s_.1)) (some (s_.2.1))) ∧ (SkV.Ok (s_.2.2) m (NodeOk q (ag + 1) dr) (AgeOk q (ag + 1)) w' (some (s_.1)) (some (s_.2.1)))) ?_ ?_
     rotate_left
     ·intro hJ3_8_9
      refine join_ (σ := SkV × SkV) 4 #[true, true, true, true, true, true, true, true, false, false, false, false] (fun s_ => [(42, SkV.v (s_.1)), (46, SkV.v (s_.2))]) (fun s_ w' => (w'.cell? ⟨w.heap.size, 0, none⟩ = some (.slice A x.f0.length c) ∧ w'.cell? ⟨w.heap.size, 1, none⟩ = some (.bool x.f1.f0) ∧ w'.cell? ⟨w.heap.size, 2, none⟩ = some (.int .i64 x.f1.f1) ∧ w'.cell? ⟨w.heap.size, 3, none⟩ = some (.slice A3 x.f1.f2.length c3) ∧ w'.cell? ⟨bB, 0, none⟩ = some (.slice B y.f0.length d) ∧ w'.cell? ⟨bB, 1, none⟩ = some (.bool y.f1.f0) ∧ w'.cell? ⟨bB, 2, none⟩ = some (.int .i64 y.f1.f1) ∧ w'.cell? ⟨bB, 3, none⟩ = some (.slice B3 y.f1.f2.length d3) ∧ w'.cell? ⟨bC, 0, none⟩ = some (.slice AP P.length cP) ∧ w'.cell? ⟨bC, 1, none⟩ = some (.slice AQ Q.length cQ) ∧ w'.cell? ⟨bC, 2, none⟩ = some (.int .i64 cyc) ∧ w'.cell? ⟨bC, 3, none⟩ = some (.int .i64 60) ∧ w'.cell? ⟨bC, 4, none⟩ = some (.int .i64 100) ∧ w'.cell? ⟨bC, 5, none⟩ = some (.int .i64 wd) ∧ w'.cell? ⟨bC, 6, none⟩ = some (.int .i64 dr) ∧ w'.cell? ⟨bC, 7, none⟩ = some (.int .i64 300000) ∧ w'.cell? ⟨bC, 8, none⟩ = some (.int .i64 ag) ∧ w'.cell? ⟨bC, 9, none⟩ = some (.int .i64 lo) ∧ w'.cell? ⟨bC, 10, none⟩ = some (.int .i64 li) ∧ w'.cell? ⟨bC, 11, none⟩ = some (.int .i64 sp) ∧ w'.cell? ⟨bC, 12, none⟩ = some (.int .i64 12)) ∧ (SkI w6 w' w.heap.size bB bC #[.slice A x.f0.length c, .bool x.f1.f0, .int .i64 x.f1.f1, .slice A3 x.f1.f2.length c3] #[.slice B y.f0.length d, .bool y.f1.f0, .int .i64 y.f1.f1, .slice B3 y.f1.f2.length d3] #[.slice AP P.length cP, .slice AQ Q.length cQ, .int .i64 cyc, .int .i64 60, .int .i64 100, .int .i64 wd, .int .i64 dr, .int .i64 300000, .int .i64 ag, .int .i64 lo, .int .i64 li, .int .i64 sp, .int .i64 12] none none) ∧ (SkV.Ok (s_.1) m (NodeOk q (ag + 1) dr) (AgeOk q (ag + 1)) w' none none) ∧ (SkV.Ok (s_.2) m (NodeOk q (ag + 1) dr) (AgeOk q (ag + 1)) w' none none)) ?_ ?_
      rotate_left
      ·intro hJ3_7
       refine join_ (σ := Nat × SkV) 4 #[true, true, true, true, true, true, true, false, true, false, false, false] (fun s_ => [(11, .pointer (some ⟨(s_.1), 0, none⟩)), (42, SkV.v (s_.2))]) (fun s_ w' => (w'.cell? ⟨w.heap.size, 0, none⟩ = some (.slice A x.f0.length c) ∧ w'.cell? ⟨w.heap.size, 1, none⟩ = some (.bool x.f1.f0) ∧ w'.cell? ⟨w.heap.size, 2, none⟩ = some (.int .i64 x.f1.f1) ∧ w'.cell? ⟨w.heap.size, 3, none⟩ = some (.slice A3 x.f1.f2.length c3) ∧ w'.cell? ⟨bB, 0, none⟩ = some (.slice B y.f0.length d) ∧ w'.cell? ⟨bB, 1, none⟩ = some (.bool y.f1.f0) ∧ w'.cell? ⟨bB, 2, none⟩ = some (.int .i64 y.f1.f1) ∧ w'.cell? ⟨bB, 3, none⟩ = some (.slice B3 y.f1.f2.length d3) ∧ w'.cell? ⟨bC, 0, none⟩ = some (.slice AP P.length cP) ∧ w'.cell? ⟨bC, 1, none⟩ = some (.slice AQ Q.length cQ) ∧ w'.cell? ⟨bC, 2, none⟩ = some (.int .i64 cyc) ∧ w'.cell? ⟨bC, 3, none⟩ = some (.int .i64 60) ∧ w'.cell? ⟨bC, 4, none⟩ = some (.int .i64 100) ∧ w'.cell? ⟨bC, 5, none⟩ = some (.int .i64 wd) ∧ w'.cell? ⟨bC, 6, none⟩ = some (.int .i64 dr) ∧ w'.cell? ⟨bC, 7, none⟩ = some (.int .i64 300000) ∧ w'.cell? ⟨bC, 8, none⟩ = some (.int .i64 ag) ∧ w'.cell? ⟨bC, 9, none⟩ = some (.int .i64 lo) ∧ w'.cell? ⟨bC, 10, none⟩ = some (.int .i64 li) ∧ w'.cell? ⟨bC, 11, none⟩ = some (.int .i64 sp) ∧ w'.cell? ⟨bC, 12, none⟩ = some (.int .i64 12)) ∧ (SkI w6 w' w.heap.size bB bC #[.slice A x.f0.length c, .bool x.f1.f0, .int .i64 x.f1.f1, .slice A3 x.f1.f2.length c3] #[.slice B y.f0.length d, .bool y.f1.f0, .int .i64 y.f1.f1, .slice B3 y.f1.f2.length d3] #[.slice AP P.length cP, .slice AQ Q.length cQ, .int .i64 cyc, .int .i64 60, .int .i64 100, .int .i64 wd, .int .i64 dr, .int .i64 300000, .int .i64 ag, .int .i64 lo, .int .i64 li, .int .i64 sp, .int .i64 12] (some (s_.1)) none) ∧ (SkV.Ok (s_.2) m (NodeOk q (ag + 1) dr) (AgeOk q (ag + 1)) w' (some (s_.1)) none)) ?_ ?_
       rotate_left
       ·intro hJ3_8
        refine join_ (σ := Nat × SkV) 4 #[true, true, true, true, true, true, true, false, false, true, false, false] (fun s_ => [(12, .pointer (some ⟨(s_.1), 0, none⟩)), (42, SkV.v (s_.2))]) (fun s_ w' => (w'.cell? ⟨w.heap.size, 0, none⟩ = some (.slice A x.f0.length c) ∧ w'.cell? ⟨w.heap.size, 1, none⟩ = some (.bool x.f1.f0) ∧ w'.cell? ⟨w.heap.size, 2, none⟩ = some (.int .i64 x.f1.f1) ∧ w'.cell? ⟨w.heap.size, 3, none⟩ = some (.slice A3 x.f1.f2.length c3) ∧ w'.cell? ⟨bB, 0, none⟩ = some (.slice B y.f0.length d) ∧ w'.cell? ⟨bB, 1, none⟩ = some (.bool y.f1.f0) ∧ w'.cell? ⟨bB, 2, none⟩ = some (.int .i64 y.f1.f1) ∧ w'.cell? ⟨bB, 3, none⟩ = some (.slice B3 y.f1.f2.length d3) ∧ w'.cell? ⟨bC, 0, none⟩ = some (.slice AP P.length cP) ∧ w'.cell? ⟨bC, 1, none⟩ = some (.slice AQ Q.length cQ) ∧ w'.cell? ⟨bC, 2, none⟩ = some (.int .i64 cyc) ∧ w'.cell? ⟨bC, 3, none⟩ = some (.int .i64 60) ∧ w'.cell? ⟨bC, 4, none⟩ = some (.int .i64 100) ∧ w'.cell? ⟨bC, 5, none⟩ = some (.int .i64 wd) ∧ w'.cell? ⟨bC, 6, none⟩ = some (.int .i64 dr) ∧ w'.cell? ⟨bC, 7, none⟩ = some (.int .i64 300000) ∧ w'.cell? ⟨bC, 8, none⟩ = some (.int .i64 ag) ∧ w'.cell? ⟨bC, 9, none⟩ = some (.int .i64 lo) ∧ w'.cell? ⟨bC, 10, none⟩ = some (.int .i64 li) ∧ w'.cell? ⟨bC, 11, none⟩ = some (.int .i64 sp) ∧ w'.cell? ⟨bC, 12, none⟩ = some (.int .i64 12)) ∧ (SkI w6 w' w.heap.size bB bC #[.slice A x.f0.length c, .bool x.f1.f0, .int .i64 x.f1.f1, .slice A3 x.f1.f2.length c3] #[.slice B y.f0.length d, .bool y.f1.f0, .int .i64 y.f1.f1, .slice B3 y.f1.f2.length d3] #[.slice AP P.length cP, .slice AQ Q.length cQ, .int .i64 cyc, .int .i64 60, .int .i64 100, .int .i64 wd, .int .i64 dr, .int .i64 300000, .int .i64 ag, .int .i64 lo, .int .i64 li, .int .i64 sp, .int .i64 12] none (some (s_.1))) ∧ (SkV.Ok (s_.2) m (NodeOk q (ag + 1) dr) (AgeOk q (ag + 1)) w' none (some (s_.1)))) ?_ ?_
        rotate_left
        ·intro hJ3_9
         refine join_ (σ := Nat × Nat) 4 #[true, true, true, false, true, true, true, false, true, true, false, false] (fun s_ => [(11, .pointer (some ⟨(s_.1), 0, none⟩)), (12, .pointer (some ⟨(s_.2), 0, none⟩))]) (fun s_ w' => (w'.cell? ⟨w.heap.size, 0, none⟩ = some (.slice A x.f0.length c) ∧ w'.cell? ⟨w.heap.size, 1, none⟩ = some (.bool x.f1.f0) ∧ w'.cell? ⟨w.heap.size, 2, none⟩ = some (.int .i64 x.f1.f1) ∧ w'.cell? ⟨w.heap.size, 3, none⟩ = some (.slice A3 x.f1.f2.length c3) ∧ w'.cell? ⟨bB, 0, none⟩ = some (.slice B y.f0.length d) ∧ w'.cell? ⟨bB, 1, none⟩ = some (.bool y.f1.f0) ∧ w'.cell? ⟨bB, 2, none⟩ = some (.int .i64 y.f1.f1) ∧ w'.cell? ⟨bB, 3, none⟩ = some (.slice B3 y.f1.f2.length d3) ∧ w'.cell? ⟨bC, 0, none⟩ = some (.slice AP P.length cP) ∧ w'.cell? ⟨bC, 1, none⟩ = some (.slice AQ Q.length cQ) ∧ w'.cell? ⟨bC, 2, none⟩ = some (.int .i64 cyc) ∧ w'.cell? ⟨bC, 3, none⟩ = some (.int .i64 60) ∧ w'.cell? ⟨bC, 4, none⟩ = some (.int .i64 100) ∧ w'.cell? ⟨bC, 5, none⟩ = some (.int .i64 wd) ∧ w'.cell? ⟨bC, 6, none⟩ = some (.int .i64 dr) ∧ w'.cell? ⟨bC, 7, none⟩ = some (.int .i64 300000) ∧ w'.cell? ⟨bC, 8, none⟩ = some (.int .i64 ag) ∧ w'.cell? ⟨bC, 9, none⟩ = some (.int .i64 lo) ∧ w'.cell? ⟨bC, 10, none⟩ = some (.int .i64 li) ∧ w'.cell? ⟨bC, 11, none⟩ = some (.int .i64 sp) ∧ w'.cell? ⟨bC, 12, none⟩ = some (.int .i64 12)) ∧ (SkI w6 w' w.heap.size bB bC #[.slice A x.f0.length c, .bool x.f1.f0, .int .i64 x.f1.f1, .slice A3 x.f1.f2.length c3] #[.slice B y.f0.length d, .bool y.f1.f0, .int .i64 y.f1.f1, .slice B3 y.f1.f2.length d3] #[.slice AP P.length cP, .slice AQ Q.length cQ, .int .i64 cyc, .int .i64 60, .int .i64 100, .int .i64 wd, .int .i64 dr, .int .i64 300000, .int .i64 ag, .int .i64 lo, .int .i64 li, .int .i64 sp, .int .i64 12] (some (s_.1)) (some (s_.2)))) ?_ ?_
         rotate_left
         ·intro hJ8_9
          refine join_ (σ := SkV) 5 #[true, true, true, true, true, true, true, false, false, false, false, false] (fun s_ => [(42, SkV.v (s_))]) (fun s_ w' => (w'.cell? ⟨w.heap.size, 0, none⟩ = some (.slice A x.f0.length c) ∧ w'.cell? ⟨w.heap.size, 1, none⟩ = some (.bool x.f1.f0) ∧ w'.cell? ⟨w.heap.size, 2, none⟩ = some (.int .i64 x.f1.f1) ∧ w'.cell? ⟨w.heap.size, 3, none⟩ = some (.slice A3 x.f1.f2.length c3) ∧ w'.cell? ⟨bB, 0, none⟩ = some (.slice B y.f0.length d) ∧ w'.cell? ⟨bB, 1, none⟩ = some (.bool y.f1.f0) ∧ w'.cell? ⟨bB, 2, none⟩ = some (.int .i64 y.f1.f1) ∧ w'.cell? ⟨bB, 3, none⟩ = some (.slice B3 y.f1.f2.length d3) ∧ w'.cell? ⟨bC, 0, none⟩ = some (.slice AP P.length cP) ∧ w'.cell? ⟨bC, 1, none⟩ = some (.slice AQ Q.length cQ) ∧ w'.cell? ⟨bC, 2, none⟩ = some (.int .i64 cyc) ∧ w'.cell? ⟨bC, 3, none⟩ = some (.int .i64 60) ∧ w'.cell? ⟨bC, 4, none⟩ = some (.int .i64 100) ∧ w'.cell? ⟨bC, 5, none⟩ = some (.int .i64 wd) ∧ w'.cell? ⟨bC, 6, none⟩ = some (.int .i64 dr) ∧ w'.cell? ⟨bC, 7, none⟩ = some (.int .i64 300000) ∧ w'.cell? ⟨bC, 8, none⟩ = some (.int .i64 ag) ∧ w'.cell? ⟨bC, 9, none⟩ = some (.int .i64 lo) ∧ w'.cell? ⟨bC, 10, none⟩ = some (.int .i64 li) ∧ w'.cell? ⟨bC, 11, none⟩ = some (.int .i64 sp) ∧ w'.cell? ⟨bC, 12, none⟩ = some (.int .i64 12)) ∧ (SkI w6 w' w.heap.size bB bC #[.slice A x.f0.length c, .bool x.f1.f0, .int .i64 x.f1.f1, .slice A3 x.f1.f2.length c3] #[.slice B y.f0.length d, .bool y.f1.f0, .int .i64 y.f1.f1, .slice B3 y.f1.f2.length d3] #[.slice AP P.length cP, .slice AQ Q.length cQ, .int .i64 cyc, .int .i64 60, .int .i64 100, .int .i64 wd, .int .i64 dr, .int .i64 300000, .int .i64 ag, .int .i64 lo, .int .i64 li, .int .i64 sp, .int .i64 12] none none) ∧ (SkV.Ok (s_) m (NodeOk q (ag + 1) dr) (AgeOk q (ag + 1)) w' none none)) ?_ ?_
          rotate_left
          ·intro hJ3
           refine join_ (σ := Nat) 5 #[true, true, true, false, true, true, true, false, true, false, false, false] (fun s_ => [(11, .pointer (some ⟨(s_), 0, none⟩))]) (fun s_ w' => (w'.cell? ⟨w.heap.size, 0, none⟩ = some (.slice A x.f0.length c) ∧ w'.cell? ⟨w.heap.size, 1, none⟩ = some (.bool x.f1.f0) ∧ w'.cell? ⟨w.heap.size, 2, none⟩ = some (.int .i64 x.f1.f1) ∧ w'.cell? ⟨w.heap.size, 3, none⟩ = some (.slice A3 x.f1.f2.length c3) ∧ w'.cell? ⟨bB, 0, none⟩ = some (.slice B y.f0.length d) ∧ w'.cell? ⟨bB, 1, none⟩ = some (.bool y.f1.f0) ∧ w'.cell? ⟨bB, 2, none⟩ = some (.int .i64 y.f1.f1) ∧ w'.cell? ⟨bB, 3, none⟩ = some (.slice B3 y.f1.f2.length d3) ∧ w'.cell? ⟨bC, 0, none⟩ = some (.slice AP P.length cP) ∧ w'.cell? ⟨bC, 1, none⟩ = some (.slice AQ Q.length cQ) ∧ w'.cell? ⟨bC, 2, none⟩ = some (.int .i64 cyc) ∧ w'.cell? ⟨bC, 3, none⟩ = some (.int .i64 60) ∧ w'.cell? ⟨bC, 4, none⟩ = some (.int .i64 100) ∧ w'.cell? ⟨bC, 5, none⟩ = some (.int .i64 wd) ∧ w'.cell? ⟨bC, 6, none⟩ = some (.int .i64 dr) ∧ w'.cell? ⟨bC, 7, none⟩ = some (.int .i64 300000) ∧ w'.cell? ⟨bC, 8, none⟩ = some (.int .i64 ag) ∧ w'.cell? ⟨bC, 9, none⟩ = some (.int .i64 lo) ∧ w'.cell? ⟨bC, 10, none⟩ = some (.int .i64 li) ∧ w'.cell? ⟨bC, 11, none⟩ = some (.int .i64 sp) ∧ w'.cell? ⟨bC, 12, none⟩ = some (.int .i64 12)) ∧ (SkI w6 w' w.heap.size bB bC #[.slice A x.f0.length c, .bool x.f1.f0, .int .i64 x.f1.f1, .slice A3 x.f1.f2.length c3] #[.slice B y.f0.length d, .bool y.f1.f0, .int .i64 y.f1.f1, .slice B3 y.f1.f2.length d3] #[.slice AP P.length cP, .slice AQ Q.length cQ, .int .i64 cyc, .int .i64 60, .int .i64 100, .int .i64 wd, .int .i64 dr, .int .i64 300000, .int .i64 ag, .int .i64 lo, .int .i64 li, .int .i64 sp, .int .i64 12] (some (s_)) none)) ?_ ?_
           rotate_left
           ·intro hJ8
            refine join_ (σ := Nat) 5 #[true, true, true, false, true, true, true, false, false, true, false, false] (fun s_ => [(12, .pointer (some ⟨(s_), 0, none⟩))]) (fun s_ w' => (w'.cell? ⟨w.heap.size, 0, none⟩ = some (.slice A x.f0.length c) ∧ w'.cell? ⟨w.heap.size, 1, none⟩ = some (.bool x.f1.f0) ∧ w'.cell? ⟨w.heap.size, 2, none⟩ = some (.int .i64 x.f1.f1) ∧ w'.cell? ⟨w.heap.size, 3, none⟩ = some (.slice A3 x.f1.f2.length c3) ∧ w'.cell? ⟨bB, 0, none⟩ = some (.slice B y.f0.length d) ∧ w'.cell? ⟨bB, 1, none⟩ = some (.bool y.f1.f0) ∧ w'.cell? ⟨bB, 2, none⟩ = some (.int .i64 y.f1.f1) ∧ w'.cell? ⟨bB, 3, none⟩ = some (.slice B3 y.f1.f2.length d3) ∧ w'.cell? ⟨bC, 0, none⟩ = some (.slice AP P.length cP) ∧ w'.cell? ⟨bC, 1, none⟩ = some (.slice AQ Q.length cQ) ∧ w'.cell? ⟨bC, 2, none⟩ = some (.int .i64 cyc) ∧ w'.cell? ⟨bC, 3, none⟩ = some (.int .i64 60) ∧ w'.cell? ⟨bC, 4, none⟩ = some (.int .i64 100) ∧ w'.cell? ⟨bC, 5, none⟩ = some (.int .i64 wd) ∧ w'.cell? ⟨bC, 6, none⟩ = some (.int .i64 dr) ∧ w'.cell? ⟨bC, 7, none⟩ = some (.int .i64 300000) ∧ w'.cell? ⟨bC, 8, none⟩ = some (.int .i64 ag) ∧ w'.cell? ⟨bC, 9, none⟩ = some (.int .i64 lo) ∧ w'.cell? ⟨bC, 10, none⟩ = some (.int .i64 li) ∧ w'.cell? ⟨bC, 11, none⟩ = some (.int .i64 sp) ∧ w'.cell? ⟨bC, 12, none⟩ = some (.int .i64 12)) ∧ (SkI w6 w' w.heap.size bB bC #[.slice A x.f0.length c, .bool x.f1.f0, .int .i64 x.f1.f1, .slice A3 x.f1.f2.length c3] #[.slice B y.f0.length d, .bool y.f1.f0, .int .i64 y.f1.f1, .slice B3 y.f1.f2.length d3] #[.slice AP P.length cP, .slice AQ Q.length cQ, .int .i64 cyc, .int .i64 60, .int .i64 100, .int .i64 wd, .int .i64 dr, .int .i64 300000, .int .i64 ag, .int .i64 lo, .int .i64 li, .int .i64 sp, .int .i64 12] none (some (s_)))) ?_ ?_
            rotate_left
            ·intro hJ9
             refine three_ (i := 3) (j := 8) (k := 9) (Ni := some 42) (Nj := some 11) (Nk := some 12) #[true, true, true, true, true, true, true, false, false, false, false, false] #[true, true, true, false, true, true, true, false, true, false, false, false] #[true, true, true, false, true, true, true, false, false, true, false, false] rfl rfl rfl rfl rfl rfl (by kernel_rfl) (by decide) (by decide) (by decide) (fun K hK => ?_) (fun K hK => ?_) (fun K hK => ?_)
             ·skip
              refine goes_ Tryz.func14 (by kernel_rfl) rfl #[.agg #[.slice AP P.length cP, .slice AQ Q.length cQ, .int .i64 cyc, .int .i64 60, .int .i64 100, .int .i64 wd, .int .i64 dr, .int .i64 300000, .int .i64 ag, .int .i64 lo, .int .i64 li, .int .i64 sp, .int .i64 12], .int .i64 p, .agg #[.slice A x.f0.length c, .bool x.f1.f0, .int .i64 x.f1.f1, .slice A3 x.f1.f2.length c3], .bool false] (by rfl) rfl rfl (by simp only [List.map_toArray, List.map_cons, List.map_nil]; rfl) ?_
              with_reducible refine (made19_walk AP cP P AQ cQ Q cyc 60 100 wd dr 300000 ag lo li sp 12 p A c x.f0 x.f1.f0 x.f1.f1 A3 c3 x.f1.f2 false m 100 (NodeOk q (ag + 1) dr) (AgeOk q (ag + 1)) _ (HN.out.below HI.out.b) (HXX.out.below HI.out.b) HM.out.1 HMA.out).mono ?_
              rintro e w9 ⟨r9, A9, c9, B9, e9, rfl, hf9, hd9, hb9⟩
              refine ⟨_, rfl, ?_⟩
              clear hHeld
              refine hK.out _ _ ((sk_cells (HI.out.step hb9))) (fun hHeld => ?_)
              clear hK K
              refine norm_ (a' := ?_) ?_ ?_
              rotate_left
              ·show Act.put _ (some 42) _ = _
               simp only [Act.put, sAa, sBb, sCc, i64_w, i32_w]
               rfl
              exact norm_ (by first | (simp only [putAll, Act.put, sAa, sBb, sCc]; done) | (simp only [putAll, Act.put, sAa, sBb, sCc]; rfl)) (hJ3 (⟨r9, A9, c9, B9, e9⟩ : SkV) _ ⟨hHeld, (HI.out.step hb9), (skv_made HI.out hf9 hd9)⟩)
             ·skip
              refine value_ (w1 := ?_) (v := ?_) (by rfl) rfl ?_ ?_
              rotate_left 2
              ·go_simp
               constructor
               ·rfl
               ·rfl
              clear hHeld
              refine hK.out _ _ ((sk_cells HI.out.newX)) (fun hHeld => ?_)
              clear hK K
              refine norm_ (a' := ?_) ?_ ?_
              rotate_left
              ·show Act.put _ (some 11) _ = _
               simp only [Act.put, sAa, sBb, sCc, i64_w, i32_w]
               rfl
              exact norm_ (by first | (simp only [putAll, Act.put, sAa, sBb, sCc]; done) | (simp only [putAll, Act.put, sAa, sBb, sCc]; rfl)) (hJ8 _ _ ⟨hHeld, HI.out.newX⟩)
             ·skip
              refine value_ (w1 := ?_) (v := ?_) (by rfl) rfl ?_ ?_
              rotate_left 2
              ·go_simp
               constructor
               ·rfl
               ·rfl
              clear hHeld
              refine hK.out _ _ ((sk_cells HI.out.newY)) (fun hHeld => ?_)
              clear hK K
              refine norm_ (a' := ?_) ?_ ?_
              rotate_left
              ·show Act.put _ (some 12) _ = _
               simp only [Act.put, sAa, sBb, sCc, i64_w, i32_w]
               rfl
              exact norm_ (by first | (simp only [putAll, Act.put, sAa, sBb, sCc]; done) | (simp only [putAll, Act.put, sAa, sBb, sCc]; rfl)) (hJ9 _ _ ⟨hHeld, HI.out.newY⟩)
            ·skip
             rintro gY w8 ⟨hHeld, hI⟩
             clear HI
             have HI := am hI
             clear hI
             refine norm_ (a' := ?_) ?_ ?_
             rotate_left
             ·simp only [putAll, Act.put, sAa, sBb, sCc]
              rfl
             refine two_ (i := 3) (j := 8) (Ni := some 42) (Nj := some 11) #[true, true, true, true, true, true, true, false, false, true, false, false] #[true, true, true, false, true, true, true, false, true, true, false, false] rfl rfl rfl rfl (by kernel_rfl) (by decide) (by decide) (fun K hK => ?_) (fun K hK => ?_)
             ·skip
              refine goes_ Tryz.func14 (by kernel_rfl) rfl #[.agg #[.slice AP P.length cP, .slice AQ Q.length cQ, .int .i64 cyc, .int .i64 60, .int .i64 100, .int .i64 wd, .int .i64 dr, .int .i64 300000, .int .i64 ag, .int .i64 lo, .int .i64 li, .int .i64 sp, .int .i64 12], .int .i64 p, .agg #[.slice A x.f0.length c, .bool x.f1.f0, .int .i64 x.f1.f1, .slice A3 x.f1.f2.length c3], .bool false] (by rfl) rfl rfl (by simp only [List.map_toArray, List.map_cons, List.map_nil]; rfl) ?_
              with_reducible refine (made19_walk AP cP P AQ cQ Q cyc 60 100 wd dr 300000 ag lo li sp 12 p A c x.f0 x.f1.f0 x.f1.f1 A3 c3 x.f1.f2 false m 100 (NodeOk q (ag + 1) dr) (AgeOk q (ag + 1)) _ (HN.out.below HI.out.b) (HXX.out.below HI.out.b) HM.out.1 HMA.out).mono ?_
              rintro e w9 ⟨r9, A9, c9, B9, e9, rfl, hf9, hd9, hb9⟩
              refine ⟨_, rfl, ?_⟩
              clear hHeld
              refine hK.out _ _ ((sk_cells (HI.out.step hb9))) (fun hHeld => ?_)
              clear hK K
              refine norm_ (a' := ?_) ?_ ?_
              rotate_left
              ·show Act.put _ (some 42) _ = _
               simp only [Act.put, sAa, sBb, sCc, i64_w, i32_w]
               rfl
              exact norm_ (by first | (simp only [putAll, Act.put, sAa, sBb, sCc]; done) | (simp only [putAll, Act.put, sAa, sBb, sCc]; rfl)) (hJ3_9 (gY, (⟨r9, A9, c9, B9, e9⟩ : SkV)) _ ⟨hHeld, (HI.out.step hb9), (skv_made HI.out hf9 hd9)⟩)
             ·skip
              refine value_ (w1 := ?_) (v := ?_) (by rfl) rfl ?_ ?_
              rotate_left 2
              ·go_simp
               constructor
               ·rfl
               ·rfl
              clear hHeld
              refine hK.out _ _ ((sk_cells HI.out.newX)) (fun hHeld => ?_)
              clear hK K
              refine norm_ (a' := ?_) ?_ ?_
              rotate_left
              ·show Act.put _ (some 11) _ = _
               simp only [Act.put, sAa, sBb, sCc, i64_w, i32_w]
               rfl
              exact norm_ (by first | (simp only [putAll, Act.put, sAa, sBb, sCc]; done) | (simp only [putAll, Act.put, sAa, sBb, sCc]; rfl)) (hJ8_9 (_, gY) _ ⟨hHeld, HI.out.newX⟩)
           ·skip
            rintro gX w8 ⟨hHeld, hI⟩
            clear HI
            have HI := am hI
            clear hI
            refine norm_ (a' := ?_) ?_ ?_
            rotate_left
            ·simp only [putAll, Act.put, sAa, sBb, sCc]
             rfl
            refine two_ (i := 3) (j := 9) (Ni := some 42) (Nj := some 12) #[true, true, true, true, true, true, true, false, true, false, false, false] #[true, true, true, false, true, true, true, false, true, true, false, false] rfl rfl rfl rfl (by kernel_rfl) (by decide) (by decide) (fun K hK => ?_) (fun K hK => ?_)
            ·skip
             refine goes_ Tryz.func14 (by kernel_rfl) rfl #[.agg #[.slice AP P.length cP, .slice AQ Q.length cQ, .int .i64 cyc, .int .i64 60, .int .i64 100, .int .i64 wd, .int .i64 dr, .int .i64 300000, .int .i64 ag, .int .i64 lo, .int .i64 li, .int .i64 sp, .int .i64 12], .int .i64 p, .agg #[.slice A x.f0.length c, .bool x.f1.f0, .int .i64 x.f1.f1, .slice A3 x.f1.f2.length c3], .bool false] (by rfl) rfl rfl (by simp only [List.map_toArray, List.map_cons, List.map_nil]; rfl) ?_
             with_reducible refine (made19_walk AP cP P AQ cQ Q cyc 60 100 wd dr 300000 ag lo li sp 12 p A c x.f0 x.f1.f0 x.f1.f1 A3 c3 x.f1.f2 false m 100 (NodeOk q (ag + 1) dr) (AgeOk q (ag + 1)) _ (HN.out.below HI.out.b) (HXX.out.below HI.out.b) HM.out.1 HMA.out).mono ?_
             rintro e w9 ⟨r9, A9, c9, B9, e9, rfl, hf9, hd9, hb9⟩
             refine ⟨_, rfl, ?_⟩
             clear hHeld
             refine hK.out _ _ ((sk_cells (HI.out.step hb9))) (fun hHeld => ?_)
             clear hK K
             refine norm_ (a' := ?_) ?_ ?_
             rotate_left
             ·show Act.put _ (some 42) _ = _
              simp only [Act.put, sAa, sBb, sCc, i64_w, i32_w]
              rfl
             exact norm_ (by first | (simp only [putAll, Act.put, sAa, sBb, sCc]; done) | (simp only [putAll, Act.put, sAa, sBb, sCc]; rfl)) (hJ3_8 (gX, (⟨r9, A9, c9, B9, e9⟩ : SkV)) _ ⟨hHeld, (HI.out.step hb9), (skv_made HI.out hf9 hd9)⟩)
            ·skip
             refine value_ (w1 := ?_) (v := ?_) (by rfl) rfl ?_ ?_
             rotate_left 2
             ·go_simp
              constructor
              ·rfl
              ·rfl
             clear hHeld
             refine hK.out _ _ ((sk_cells HI.out.newY)) (fun hHeld => ?_)
             clear hK K
             refine norm_ (a' := ?_) ?_ ?_
             rotate_left
             ·show Act.put _ (some 12) _ = _
              simp only [Act.put, sAa, sBb, sCc, i64_w, i32_w]
              rfl
             exact norm_ (by first | (simp only [putAll, Act.put, sAa, sBb, sCc]; done) | (simp only [putAll, Act.put, sAa, sBb, sCc]; rfl)) (hJ8_9 (gX, _) _ ⟨hHeld, HI.out.newY⟩)
          ·skip
           rintro rA w8 ⟨hHeld, hI, hA⟩
           clear HI
           have HI := am hI
           try clear HA
           have HA := am hA
           clear hI hA
           refine norm_ (a' := ?_) ?_ ?_
           rotate_left
           ·simp only [putAll, Act.put, sAa, sBb, sCc]
            rfl
           refine three_ (i := 7) (j := 8) (k := 9) (Ni := some 46) (Nj := some 11) (Nk := some 12) #[true, true, true, true, true, true, true, true, false, false, false, false] #[true, true, true, true, true, true, true, false, true, false, false, false] #[true, true, true, true, true, true, true, false, false, true, false, false] rfl rfl rfl rfl rfl rfl (by kernel_rfl) (by decide) (by decide) (by decide) (fun K hK => ?_) (fun K hK => ?_) (fun K hK => ?_)
           ·skip
            refine goes_ Tryz.func14 (by kernel_rfl) rfl #[.agg #[.slice AP P.length cP, .slice AQ Q.length cQ, .int .i64 cyc, .int .i64 60, .int .i64 100, .int .i64 wd, .int .i64 dr, .int .i64 300000, .int .i64 ag, .int .i64 lo, .int .i64 li, .int .i64 sp, .int .i64 12], .int .i64 p, .agg #[.slice B y.f0.length d, .bool y.f1.f0, .int .i64 y.f1.f1, .slice B3 y.f1.f2.length d3], .bool true] (by rfl) rfl rfl (by simp only [List.map_toArray, List.map_cons, List.map_nil]; rfl) ?_
            with_reducible refine (made19_walk AP cP P AQ cQ Q cyc 60 100 wd dr 300000 ag lo li sp 12 p B d y.f0 y.f1.f0 y.f1.f1 B3 d3 y.f1.f2 true m 100 (NodeOk q (ag + 1) dr) (AgeOk q (ag + 1)) _ (HN.out.below HI.out.b) (HYY.out.below HI.out.b) HM.out.2 HMA.out).mono ?_
            rintro e w9 ⟨r9, A9, c9, B9, e9, rfl, hf9, hd9, hb9⟩
            refine ⟨_, rfl, ?_⟩
            clear hHeld
            refine hK.out _ _ ((sk_cells (HI.out.step hb9))) (fun hHeld => ?_)
            clear hK K
            refine norm_ (a' := ?_) ?_ ?_
            rotate_left
            ·show Act.put _ (some 46) _ = _
             simp only [Act.put, sAa, sBb, sCc, i64_w, i32_w]
             rfl
            exact norm_ (by first | (simp only [putAll, Act.put, sAa, sBb, sCc]; done) | (simp only [putAll, Act.put, sAa, sBb, sCc]; rfl)) (hJ3_7 (rA, (⟨r9, A9, c9, B9, e9⟩ : SkV)) _ ⟨hHeld, (HI.out.step hb9), (HA.out.step hb9), (skv_made HI.out hf9 hd9)⟩)
           ·skip
            refine value_ (w1 := ?_) (v := ?_) (by rfl) rfl ?_ ?_
            rotate_left 2
            ·go_simp
             constructor
             ·rfl
             ·rfl
            clear hHeld
            refine hK.out _ _ ((sk_cells HI.out.newX)) (fun hHeld => ?_)
            clear hK K
            refine norm_ (a' := ?_) ?_ ?_
            rotate_left
            ·show Act.put _ (some 11) _ = _
             simp only [Act.put, sAa, sBb, sCc, i64_w, i32_w]
             rfl
            exact norm_ (by first | (simp only [putAll, Act.put, sAa, sBb, sCc]; done) | (simp only [putAll, Act.put, sAa, sBb, sCc]; rfl)) (hJ3_8 (_, rA) _ ⟨hHeld, HI.out.newX, (HA.out.newX _)⟩)
           ·skip
            refine value_ (w1 := ?_) (v := ?_) (by rfl) rfl ?_ ?_
            rotate_left 2
            ·go_simp
             constructor
             ·rfl
             ·rfl
            clear hHeld
            refine hK.out _ _ ((sk_cells HI.out.newY)) (fun hHeld => ?_)
            clear hK K
            refine norm_ (a' := ?_) ?_ ?_
            rotate_left
            ·show Act.put _ (some 12) _ = _
             simp only [Act.put, sAa, sBb, sCc, i64_w, i32_w]
             rfl
            exact norm_ (by first | (simp only [putAll, Act.put, sAa, sBb, sCc]; done) | (simp only [putAll, Act.put, sAa, sBb, sCc]; rfl)) (hJ3_9 (_, rA) _ ⟨hHeld, HI.out.newY, (HA.out.newY _)⟩)
         ·skip
          rintro ⟨gX, gY⟩ w8 ⟨hHeld, hI⟩
          clear HI
          have HI := am hI
          clear hI
          refine norm_ (a' := ?_) ?_ ?_
          rotate_left
          ·simp only [putAll, Act.put, sAa, sBb, sCc]
           rfl
          refine one_ (i := 3) (N := some 42) #[true, true, true, true, true, true, true, false, true, true, false, false] rfl rfl (by kernel_rfl) (by decide) (fun K hK => ?_)
          refine goes_ Tryz.func14 (by kernel_rfl) rfl #[.agg #[.slice AP P.length cP, .slice AQ Q.length cQ, .int .i64 cyc, .int .i64 60, .int .i64 100, .int .i64 wd, .int .i64 dr, .int .i64 300000, .int .i64 ag, .int .i64 lo, .int .i64 li, .int .i64 sp, .int .i64 12], .int .i64 p, .agg #[.slice A x.f0.length c, .bool x.f1.f0, .int .i64 x.f1.f1, .slice A3 x.f1.f2.length c3], .bool false] (by rfl) rfl rfl (by simp only [List.map_toArray, List.map_cons, List.map_nil]; rfl) ?_
          with_reducible refine (made19_walk AP cP P AQ cQ Q cyc 60 100 wd dr 300000 ag lo li sp 12 p A c x.f0 x.f1.f0 x.f1.f1 A3 c3 x.f1.f2 false m 100 (NodeOk q (ag + 1) dr) (AgeOk q (ag + 1)) _ (HN.out.below HI.out.b) (HXX.out.below HI.out.b) HM.out.1 HMA.out).mono ?_
          rintro e w9 ⟨r9, A9, c9, B9, e9, rfl, hf9, hd9, hb9⟩
          refine ⟨_, rfl, ?_⟩
          clear hHeld
          refine hK.out _ _ ((sk_cells (HI.out.step hb9))) (fun hHeld => ?_)
          clear hK K
          refine norm_ (a' := ?_) ?_ ?_
          rotate_left
          ·show Act.put _ (some 42) _ = _
           simp only [Act.put, sAa, sBb, sCc, i64_w, i32_w]
           rfl
          exact norm_ (by first | (simp only [putAll, Act.put, sAa, sBb, sCc]; done) | (simp only [putAll, Act.put, sAa, sBb, sCc]; rfl)) (hJ3_8_9 (gX, gY, (⟨r9, A9, c9, B9, e9⟩ : SkV)) _ ⟨hHeld, (HI.out.step hb9), (skv_made HI.out hf9 hd9)⟩)
        ·skip
         rintro ⟨gY, rA⟩ w8 ⟨hHeld, hI, hA⟩
         clear HI
         have HI := am hI
         try clear HA
         have HA := am hA
         clear hI hA
         refine norm_ (a' := ?_) ?_ ?_
         rotate_left
         ·simp only [putAll, Act.put, sAa, sBb, sCc]
          rfl
         refine two_ (i := 7) (j := 8) (Ni := some 46) (Nj := some 11) #[true, true, true, true, true, true, true, true, false, true, false, false] #[true, true, true, true, true, true, true, false, true, true, false, false] rfl rfl rfl rfl (by kernel_rfl) (by decide) (by decide) (fun K hK => ?_) (fun K hK => ?_)
         ·skip
          refine goes_ Tryz.func14 (by kernel_rfl) rfl #[.agg #[.slice AP P.length cP, .slice AQ Q.length cQ, .int .i64 cyc, .int .i64 60, .int .i64 100, .int .i64 wd, .int .i64 dr, .int .i64 300000, .int .i64 ag, .int .i64 lo, .int .i64 li, .int .i64 sp, .int .i64 12], .int .i64 p, .agg #[.slice B y.f0.length d, .bool y.f1.f0, .int .i64 y.f1.f1, .slice B3 y.f1.f2.length d3], .bool true] (by rfl) rfl rfl (by simp only [List.map_toArray, List.map_cons, List.map_nil]; rfl) ?_
          with_reducible refine (made19_walk AP cP P AQ cQ Q cyc 60 100 wd dr 300000 ag lo li sp 12 p B d y.f0 y.f1.f0 y.f1.f1 B3 d3 y.f1.f2 true m 100 (NodeOk q (ag + 1) dr) (AgeOk q (ag + 1)) _ (HN.out.below HI.out.b) (HYY.out.below HI.out.b) HM.out.2 HMA.out).mono ?_
          rintro e w9 ⟨r9, A9, c9, B9, e9, rfl, hf9, hd9, hb9⟩
          refine ⟨_, rfl, ?_⟩
          clear hHeld
          refine hK.out _ _ ((sk_cells (HI.out.step hb9))) (fun hHeld => ?_)
          clear hK K
          refine norm_ (a' := ?_) ?_ ?_
          rotate_left
          ·show Act.put _ (some 46) _ = _
           simp only [Act.put, sAa, sBb, sCc, i64_w, i32_w]
           rfl
          exact norm_ (by first | (simp only [putAll, Act.put, sAa, sBb, sCc]; done) | (simp only [putAll, Act.put, sAa, sBb, sCc]; rfl)) (hJ3_7_9 (gY, rA, (⟨r9, A9, c9, B9, e9⟩ : SkV)) _ ⟨hHeld, (HI.out.step hb9), (HA.out.step hb9), (skv_made HI.out hf9 hd9)⟩)
         ·skip
          refine value_ (w1 := ?_) (v := ?_) (by rfl) rfl ?_ ?_
          rotate_left 2
          ·go_simp
           constructor
           ·rfl
           ·rfl
          clear hHeld
          refine hK.out _ _ ((sk_cells HI.out.newX)) (fun hHeld => ?_)
          clear hK K
          refine norm_ (a' := ?_) ?_ ?_
          rotate_left
          ·show Act.put _ (some 11) _ = _
           simp only [Act.put, sAa, sBb, sCc, i64_w, i32_w]
           rfl
          exact norm_ (by first | (simp only [putAll, Act.put, sAa, sBb, sCc]; done) | (simp only [putAll, Act.put, sAa, sBb, sCc]; rfl)) (hJ3_8_9 (_, gY, rA) _ ⟨hHeld, HI.out.newX, (HA.out.newX _)⟩)
       ·skip
        rintro ⟨gX, rA⟩ w8 ⟨hHeld, hI, hA⟩
        clear HI
        have HI := am hI
        try clear HA
        have HA := am hA
        clear hI hA
        refine norm_ (a' := ?_) ?_ ?_
        rotate_left
        ·simp only [putAll, Act.put, sAa, sBb, sCc]
         rfl
        refine two_ (i := 7) (j := 9) (Ni := some 46) (Nj := some 12) #[true, true, true, true, true, true, true, true, true, false, false, false] #[true, true, true, true, true, true, true, false, true, true, false, false] rfl rfl rfl rfl (by kernel_rfl) (by decide) (by decide) (fun K hK => ?_) (fun K hK => ?_)
        ·skip
         refine goes_ Tryz.func14 (by kernel_rfl) rfl #[.agg #[.slice AP P.length cP, .slice AQ Q.length cQ, .int .i64 cyc, .int .i64 60, .int .i64 100, .int .i64 wd, .int .i64 dr, .int .i64 300000, .int .i64 ag, .int .i64 lo, .int .i64 li, .int .i64 sp, .int .i64 12], .int .i64 p, .agg #[.slice B y.f0.length d, .bool y.f1.f0, .int .i64 y.f1.f1, .slice B3 y.f1.f2.length d3], .bool true] (by rfl) rfl rfl (by simp only [List.map_toArray, List.map_cons, List.map_nil]; rfl) ?_
         with_reducible refine (made19_walk AP cP P AQ cQ Q cyc 60 100 wd dr 300000 ag lo li sp 12 p B d y.f0 y.f1.f0 y.f1.f1 B3 d3 y.f1.f2 true m 100 (NodeOk q (ag + 1) dr) (AgeOk q (ag + 1)) _ (HN.out.below HI.out.b) (HYY.out.below HI.out.b) HM.out.2 HMA.out).mono ?_
         rintro e w9 ⟨r9, A9, c9, B9, e9, rfl, hf9, hd9, hb9⟩
         refine ⟨_, rfl, ?_⟩
         clear hHeld
         refine hK.out _ _ ((sk_cells (HI.out.step hb9))) (fun hHeld => ?_)
         clear hK K
         refine norm_ (a' := ?_) ?_ ?_
         rotate_left
         ·show Act.put _ (some 46) _ = _
          simp only [Act.put, sAa, sBb, sCc, i64_w, i32_w]
          rfl
         exact norm_ (by first | (simp only [putAll, Act.put, sAa, sBb, sCc]; done) | (simp only [putAll, Act.put, sAa, sBb, sCc]; rfl)) (hJ3_7_8 (gX, rA, (⟨r9, A9, c9, B9, e9⟩ : SkV)) _ ⟨hHeld, (HI.out.step hb9), (HA.out.step hb9), (skv_made HI.out hf9 hd9)⟩)
        ·skip
         refine value_ (w1 := ?_) (v := ?_) (by rfl) rfl ?_ ?_
         rotate_left 2
         ·go_simp
          constructor
          ·rfl
          ·rfl
         clear hHeld
         refine hK.out _ _ ((sk_cells HI.out.newY)) (fun hHeld => ?_)
         clear hK K
         refine norm_ (a' := ?_) ?_ ?_
         rotate_left
         ·show Act.put _ (some 12) _ = _
          simp only [Act.put, sAa, sBb, sCc, i64_w, i32_w]
          rfl
         exact norm_ (by first | (simp only [putAll, Act.put, sAa, sBb, sCc]; done) | (simp only [putAll, Act.put, sAa, sBb, sCc]; rfl)) (hJ3_8_9 (gX, _, rA) _ ⟨hHeld, HI.out.newY, (HA.out.newY _)⟩)
      ·skip
       rintro ⟨rA, rB⟩ w8 ⟨hHeld, hI, hA, hB⟩
       clear HI
       have HI := am hI
       try clear HA
       have HA := am hA
       try clear HV
       have HV := am hB
       clear hI hA hB
       refine norm_ (a' := ?_) ?_ ?_
       rotate_left
       ·simp only [putAll, Act.put, sAa, sBb, sCc]
        rfl
       refine two_ (i := 8) (j := 9) (Ni := some 11) (Nj := some 12) #[true, true, true, true, true, true, true, true, true, false, false, false] #[true, true, true, true, true, true, true, true, false, true, false, false] rfl rfl rfl rfl (by kernel_rfl) (by decide) (by decide) (fun K hK => ?_) (fun K hK => ?_)
       ·skip
        refine value_ (w1 := ?_) (v := ?_) (by rfl) rfl ?_ ?_
        rotate_left 2
        ·go_simp
         constructor
         ·rfl
         ·rfl
        clear hHeld
        refine hK.out _ _ ((sk_cells HI.out.newX)) (fun hHeld => ?_)
        clear hK K
        refine norm_ (a' := ?_) ?_ ?_
        rotate_left
        ·show Act.put _ (some 11) _ = _
         simp only [Act.put, sAa, sBb, sCc, i64_w, i32_w]
         rfl
        exact norm_ (by first | (simp only [putAll, Act.put, sAa, sBb, sCc]; done) | (simp only [putAll, Act.put, sAa, sBb, sCc]; rfl)) (hJ3_7_8 (_, rA, rB) _ ⟨hHeld, HI.out.newX, (HA.out.newX _), (HV.out.newX _)⟩)
       ·skip
        refine value_ (w1 := ?_) (v := ?_) (by rfl) rfl ?_ ?_
        rotate_left 2
        ·go_simp
         constructor
         ·rfl
         ·rfl
        clear hHeld
        refine hK.out _ _ ((sk_cells HI.out.newY)) (fun hHeld => ?_)
        clear hK K
        refine norm_ (a' := ?_) ?_ ?_
        rotate_left
        ·show Act.put _ (some 12) _ = _
         simp only [Act.put, sAa, sBb, sCc, i64_w, i32_w]
         rfl
        exact norm_ (by first | (simp only [putAll, Act.put, sAa, sBb, sCc]; done) | (simp only [putAll, Act.put, sAa, sBb, sCc]; rfl)) (hJ3_7_9 (_, rA, rB) _ ⟨hHeld, HI.out.newY, (HA.out.newY _), (HV.out.newY _)⟩)
     ·skip
      rintro ⟨gX, gY, rA⟩ w8 ⟨hHeld, hI, hA⟩
      clear HI
      have HI := am hI
      try clear HA
      have HA := am hA
      clear hI hA
      refine norm_ (a' := ?_) ?_ ?_
      rotate_left
      ·simp only [putAll, Act.put, sAa, sBb, sCc]
       rfl
      refine one_ (i := 7) (N := some 46) #[true, true, true, true, true, true, true, true, true, true, false, false] rfl rfl (by kernel_rfl) (by decide) (fun K hK => ?_)
      refine goes_ Tryz.func14 (by kernel_rfl) rfl #[.agg #[.slice AP P.length cP, .slice AQ Q.length cQ, .int .i64 cyc, .int .i64 60, .int .i64 100, .int .i64 wd, .int .i64 dr, .int .i64 300000, .int .i64 ag, .int .i64 lo, .int .i64 li, .int .i64 sp, .int .i64 12], .int .i64 p, .agg #[.slice B y.f0.length d, .bool y.f1.f0, .int .i64 y.f1.f1, .slice B3 y.f1.f2.length d3], .bool true] (by rfl) rfl rfl (by simp only [List.map_toArray, List.map_cons, List.map_nil]; rfl) ?_
      with_reducible refine (made19_walk AP cP P AQ cQ Q cyc 60 100 wd dr 300000 ag lo li sp 12 p B d y.f0 y.f1.f0 y.f1.f1 B3 d3 y.f1.f2 true m 100 (NodeOk q (ag + 1) dr) (AgeOk q (ag + 1)) _ (HN.out.below HI.out.b) (HYY.out.below HI.out.b) HM.out.2 HMA.out).mono ?_
      rintro e w9 ⟨r9, A9, c9, B9, e9, rfl, hf9, hd9, hb9⟩
      refine ⟨_, rfl, ?_⟩
      clear hHeld
      refine hK.out _ _ ((sk_cells (HI.out.step hb9))) (fun hHeld => ?_)
      clear hK K
      refine norm_ (a' := ?_) ?_ ?_
      rotate_left
      ·show Act.put _ (some 46) _ = _
       simp only [Act.put, sAa, sBb, sCc, i64_w, i32_w]
       rfl
      exact norm_ (by first | (simp only [putAll, Act.put, sAa, sBb, sCc]; done) | (simp only [putAll, Act.put, sAa, sBb, sCc]; rfl)) (hJ3_7_8_9 (gX, gY, rA, (⟨r9, A9, c9, B9, e9⟩ : SkV)) _ ⟨hHeld, (HI.out.step hb9), (HA.out.step hb9), (skv_made HI.out hf9 hd9)⟩)
    ·skip
     rintro ⟨gY, rA, rB⟩ w8 ⟨hHeld, hI, hA, hB⟩
     clear HI
     have HI := am hI
     try clear HA
     have HA := am hA
     try clear HV
     have HV := am hB
     clear hI hA hB
     refine norm_ (a' := ?_) ?_ ?_
     rotate_left
     ·simp only [putAll, Act.put, sAa, sBb, sCc]
      rfl
     refine one_ (i := 8) (N := some 11) #[true, true, true, true, true, true, true, true, true, true, false, false] rfl rfl (by kernel_rfl) (by decide) (fun K hK => ?_)
     refine value_ (w1 := ?_) (v := ?_) (by rfl) rfl ?_ ?_
     rotate_left 2
     ·go_simp
      constructor
      ·rfl
      ·rfl
     clear hHeld
     refine hK.out _ _ ((sk_cells HI.out.newX)) (fun hHeld => ?_)
     clear hK K
     refine norm_ (a' := ?_) ?_ ?_
     rotate_left
     ·show Act.put _ (some 11) _ = _
      simp only [Act.put, sAa, sBb, sCc, i64_w, i32_w]
      rfl
     exact norm_ (by first | (simp only [putAll, Act.put, sAa, sBb, sCc]; done) | (simp only [putAll, Act.put, sAa, sBb, sCc]; rfl)) (hJ3_7_8_9 (_, gY, rA, rB) _ ⟨hHeld, HI.out.newX, (HA.out.newX _), (HV.out.newX _)⟩)
   ·skip
    rintro ⟨gX, rA, rB⟩ w8 ⟨hHeld, hI, hA, hB⟩
    clear HI
    have HI := am hI
    try clear HA
    have HA := am hA
    try clear HV
    have HV := am hB
    clear hI hA hB
    refine norm_ (a' := ?_) ?_ ?_
    rotate_left
    ·simp only [putAll, Act.put, sAa, sBb, sCc]
     rfl
    refine one_ (i := 9) (N := some 12) #[true, true, true, true, true, true, true, true, true, true, false, false] rfl rfl (by kernel_rfl) (by decide) (fun K hK => ?_)
    refine value_ (w1 := ?_) (v := ?_) (by rfl) rfl ?_ ?_
    rotate_left 2
    ·go_simp
     constructor
     ·rfl
     ·rfl
    clear hHeld
    refine hK.out _ _ ((sk_cells HI.out.newY)) (fun hHeld => ?_)
    clear hK K
    refine norm_ (a' := ?_) ?_ ?_
    rotate_left
    ·show Act.put _ (some 12) _ = _
     simp only [Act.put, sAa, sBb, sCc, i64_w, i32_w]
     rfl
    exact norm_ (by first | (simp only [putAll, Act.put, sAa, sBb, sCc]; done) | (simp only [putAll, Act.put, sAa, sBb, sCc]; rfl)) (hJ3_7_8_9 (gX, _, rA, rB) _ ⟨hHeld, HI.out.newY, (HA.out.newY _), (HV.out.newY _)⟩)
  rintro ⟨gX, gY, rA, rB⟩ w8 ⟨hHeld, hI, hA, hB⟩
  clear HI
  have HI := am hI
  try clear HA
  have HA := am hA
  try clear HV
  have HV := am hB
  clear hI hA hB
  refine norm_ (a' := ?_) ?_ ?_
  rotate_left
  ·simp only [putAll, Act.put, sAa, sBb, sCc]
   rfl
  refine last_ (i := 10) (N := none) #[true, true, true, true, true, true, true, true, true, true, true, false] rfl rfl (by kernel_rfl) (by decide) (fun K hK => ?_)
  have HJ := am HI.out.j
  have bXc0 : w8.cell? ⟨gX, 0, none⟩ = some (.slice none 0 0) := (blk_cell HJ.out.x 0).trans rfl
  have bXc1 : w8.cell? ⟨gX, 1, none⟩ = some (.bool false) := (blk_cell HJ.out.x 1).trans rfl
  have bXc2 : w8.cell? ⟨gX, 2, none⟩ = some (.int .i64 0) := (blk_cell HJ.out.x 2).trans rfl
  have bXc3 : w8.cell? ⟨gX, 3, none⟩ = some (.slice none 0 0) := (blk_cell HJ.out.x 3).trans rfl
  have bXf0 := blk_frozen HJ.out.x 0
  have bXf1 := blk_frozen HJ.out.x 1
  have bXf2 := blk_frozen HJ.out.x 2
  have bXf3 := blk_frozen HJ.out.x 3
  refine skip_ (w1 := ?_) (by rfl) rfl ?_ ?_
  rotate_left
  ·go_simp
   rfl
  have HJ_ := am ((((HJ.out.putX 0 (.slice rA.A rA.r.f0.length rA.c) (C' := #[.slice rA.A rA.r.f0.length rA.c, .bool false, .int .i64 0, .slice none 0 0]) rfl).putX 1 (.bool rA.r.f1.f0) (C' := #[.slice rA.A rA.r.f0.length rA.c, .bool rA.r.f1.f0, .int .i64 0, .slice none 0 0]) rfl).putX 2 (.int .i64 rA.r.f1.f1) (C' := #[.slice rA.A rA.r.f0.length rA.c, .bool rA.r.f1.f0, .int .i64 rA.r.f1.f1, .slice none 0 0]) rfl).putX 3 (.slice rA.A3 rA.r.f1.f2.length rA.c3) (C' := #[.slice rA.A rA.r.f0.length rA.c, .bool rA.r.f1.f0, .int .i64 rA.r.f1.f1, .slice rA.A3 rA.r.f1.f2.length rA.c3]) rfl)
  have HA_ := am ((((HA.out.farX 0 (.slice rA.A rA.r.f0.length rA.c)).farX 1 (.bool rA.r.f1.f0)).farX 2 (.int .i64 rA.r.f1.f1)).farX 3 (.slice rA.A3 rA.r.f1.f2.length rA.c3))
  have HV_ := am ((((HV.out.farX 0 (.slice rA.A rA.r.f0.length rA.c)).farX 1 (.bool rA.r.f1.f0)).farX 2 (.int .i64 rA.r.f1.f1)).farX 3 (.slice rA.A3 rA.r.f1.f2.length rA.c3))
  clear HJ HA HV bXc0 bXf0 bXc1 bXf1 bXc2 bXf2 bXc3 bXf3
  have HJ := HJ_
  have HA := HA_
  have HV := HV_
  clear HJ_ HA_ HV_
  generalize ((((w8.setCell ⟨gX, 0, none⟩ (.slice rA.A rA.r.f0.length rA.c)).setCell ⟨gX, 1, none⟩ (.bool rA.r.f1.f0)).setCell ⟨gX, 2, none⟩ (.int .i64 rA.r.f1.f1)).setCell ⟨gX, 3, none⟩ (.slice rA.A3 rA.r.f1.f2.length rA.c3)) = w10 at *
  refine hK.out _ _ ?_
  clear hK K
  refine last_ (i := 11) (N := none) #[true, true, true, true, true, true, true, true, true, true, true, true] rfl rfl (by kernel_rfl) (by decide) (fun K hK => ?_)
  have bYc0 : w10.cell? ⟨gY, 0, none⟩ = some (.slice none 0 0) := (blk_cell HJ.out.y 0).trans rfl
  have bYc1 : w10.cell? ⟨gY, 1, none⟩ = some (.bool false) := (blk_cell HJ.out.y 1).trans rfl
  have bYc2 : w10.cell? ⟨gY, 2, none⟩ = some (.int .i64 0) := (blk_cell HJ.out.y 2).trans rfl
  have bYc3 : w10.cell? ⟨gY, 3, none⟩ = some (.slice none 0 0) := (blk_cell HJ.out.y 3).trans rfl
  have bYf0 := blk_frozen HJ.out.y 0
  have bYf1 := blk_frozen HJ.out.y 1
  have bYf2 := blk_frozen HJ.out.y 2
  have bYf3 := blk_frozen HJ.out.y 3
  refine skip_ (w1 := ?_) (by rfl) rfl ?_ ?_
  rotate_left
  ·go_simp
   rfl
  have HJ_ := am ((((HJ.out.putY 0 (.slice rB.A rB.r.f0.length rB.c) (C' := #[.slice rB.A rB.r.f0.length rB.c, .bool false, .int .i64 0, .slice none 0 0]) rfl).putY 1 (.bool rB.r.f1.f0) (C' := #[.slice rB.A rB.r.f0.length rB.c, .bool rB.r.f1.f0, .int .i64 0, .slice none 0 0]) rfl).putY 2 (.int .i64 rB.r.f1.f1) (C' := #[.slice rB.A rB.r.f0.length rB.c, .bool rB.r.f1.f0, .int .i64 rB.r.f1.f1, .slice none 0 0]) rfl).putY 3 (.slice rB.A3 rB.r.f1.f2.length rB.c3) (C' := #[.slice rB.A rB.r.f0.length rB.c, .bool rB.r.f1.f0, .int .i64 rB.r.f1.f1, .slice rB.A3 rB.r.f1.f2.length rB.c3]) rfl)
  have HA_ := am ((((HA.out.farY 0 (.slice rB.A rB.r.f0.length rB.c)).farY 1 (.bool rB.r.f1.f0)).farY 2 (.int .i64 rB.r.f1.f1)).farY 3 (.slice rB.A3 rB.r.f1.f2.length rB.c3))
  have HV_ := am ((((HV.out.farY 0 (.slice rB.A rB.r.f0.length rB.c)).farY 1 (.bool rB.r.f1.f0)).farY 2 (.int .i64 rB.r.f1.f1)).farY 3 (.slice rB.A3 rB.r.f1.f2.length rB.c3))
  clear HJ HA HV bYc0 bYf0 bYc1 bYf1 bYc2 bYf2 bYc3 bYf3
  have HJ := HJ_
  have HA := HA_
  have HV := HV_
  clear HJ_ HA_ HV_
  generalize ((((w10.setCell ⟨gY, 0, none⟩ (.slice rB.A rB.r.f0.length rB.c)).setCell ⟨gY, 1, none⟩ (.bool rB.r.f1.f0)).setCell ⟨gY, 2, none⟩ (.int .i64 rB.r.f1.f1)).setCell ⟨gY, 3, none⟩ (.slice rB.A3 rB.r.f1.f2.length rB.c3)) = w11 at *
  refine hK.out _ _ ?_
  clear hK K
  refine done_ (by kernel_rfl) ?_
  clear hHeld
  clear HI
  have la : rA.r.f0.length ≤ 1000000 := by have h1 : rA.r.f0.length = m := HA.out.d.l; have h2 := HMA.out.m; omega
  have lb : rB.r.f0.length ≤ 1000000 := by have h1 : rB.r.f0.length = m := HV.out.d.l; have h2 := HMA.out.m; omega
  obtain ⟨k1, s1⟩ := (wskew_evl (l := rA.r.f0) (m := rB.r.f0) la lb rA.r.f1.f0 rA.r.f1.f1 rA.r.f1.f2 rB.r.f1.f0 rB.r.f1.f1 rB.r.f1.f2).some_
  obtain ⟨k2, s2⟩ := (wskew_evl (l := rB.r.f0) (m := rA.r.f0) lb la rB.r.f1.f0 rB.r.f1.f1 rB.r.f1.f2 rA.r.f1.f0 rA.r.f1.f1 rA.r.f1.f2).some_
  obtain ⟨k3, s3⟩ := (wskew_evl (l := rA.r.f0) (m := rA.r.f0) la la rA.r.f1.f0 rA.r.f1.f1 rA.r.f1.f2 rA.r.f1.f0 rA.r.f1.f1 rA.r.f1.f2).some_
  obtain ⟨k4, s4⟩ := (wspread_evl' (l := rA.r.f0) la rA.r.f1.f0 rA.r.f1.f1 rA.r.f1.f2).some_
  rw [skew_sym] at s2
  rw [skew_self] at s3
  generalize skewV ((syn rA.r.f0).map (·.f3)) ((syn rB.r.f0).map (·.f3)) = sk at s1 s2
  generalize sprd ((syn rA.r.f0).map (·.f3)) = su at s3 s4
  obtain ⟨u1, u2⟩ := sk
  obtain ⟨v1, v2⟩ := su
  have S1 := am s1
  have S2 := am s2
  have S3 := am s3
  have S4 := am s4
  clear s1 s2 s3 s4 la lb
  have ca0 : w11.cell? ⟨gX, 0, none⟩ = some (.slice rA.A rA.r.f0.length rA.c) := (blk_cell HJ.out.x 0).trans rfl
  have cb0 : w11.cell? ⟨gY, 0, none⟩ = some (.slice rB.A rB.r.f0.length rB.c) := (blk_cell HJ.out.y 0).trans rfl
  have ca1 : w11.cell? ⟨gX, 1, none⟩ = some (.bool rA.r.f1.f0) := (blk_cell HJ.out.x 1).trans rfl
  have cb1 : w11.cell? ⟨gY, 1, none⟩ = some (.bool rB.r.f1.f0) := (blk_cell HJ.out.y 1).trans rfl
  have ca2 : w11.cell? ⟨gX, 2, none⟩ = some (.int .i64 rA.r.f1.f1) := (blk_cell HJ.out.x 2).trans rfl
  have cb2 : w11.cell? ⟨gY, 2, none⟩ = some (.int .i64 rB.r.f1.f1) := (blk_cell HJ.out.y 2).trans rfl
  have ca3 : w11.cell? ⟨gX, 3, none⟩ = some (.slice rA.A3 rA.r.f1.f2.length rA.c3) := (blk_cell HJ.out.x 3).trans rfl
  have cb3 : w11.cell? ⟨gY, 3, none⟩ = some (.slice rB.A3 rB.r.f1.f2.length rB.c3) := (blk_cell HJ.out.y 3).trans rfl
  go_wp2_with fail
  clear ca0 cb0 ca1 cb1 ca2 cb2 ca3 cb3
  refine (watch_Skew.calls k1 rA.A rA.c rA.r.f0 rA.r.f1.f0 rA.r.f1.f1 rA.A3 rA.c3 rA.r.f1.f2 rB.A rB.c rB.r.f0 rB.r.f1.f0 rB.r.f1.f1 rB.A3 rB.c3 rB.r.f1.f2 _ _ w11 HA.out.f.now.r0 HA.out.f.now.c0 HA.out.f.now.r3 HA.out.f.now.c3 HV.out.f.now.r0 HV.out.f.now.c0 HV.out.f.now.r3 HV.out.f.now.c3 S1.out).mono ?_
  rintro e w12 ⟨rfl, hb⟩
  have HJ_ := am (HJ.out.step hb)
  have HA_ := am (HA.out.step hb)
  have HV_ := am (HV.out.step hb)
  clear HJ HA HV hb
  have HJ := HJ_
  have HA := HA_
  have HV := HV_
  clear HJ_ HA_ HV_
  have ca0 : w12.cell? ⟨gX, 0, none⟩ = some (.slice rA.A rA.r.f0.length rA.c) := (blk_cell HJ.out.x 0).trans rfl
  have cb0 : w12.cell? ⟨gY, 0, none⟩ = some (.slice rB.A rB.r.f0.length rB.c) := (blk_cell HJ.out.y 0).trans rfl
  have ca1 : w12.cell? ⟨gX, 1, none⟩ = some (.bool rA.r.f1.f0) := (blk_cell HJ.out.x 1).trans rfl
  have cb1 : w12.cell? ⟨gY, 1, none⟩ = some (.bool rB.r.f1.f0) := (blk_cell HJ.out.y 1).trans rfl
  have ca2 : w12.cell? ⟨gX, 2, none⟩ = some (.int .i64 rA.r.f1.f1) := (blk_cell HJ.out.x 2).trans rfl
  have cb2 : w12.cell? ⟨gY, 2, none⟩ = some (.int .i64 rB.r.f1.f1) := (blk_cell HJ.out.y 2).trans rfl
  have ca3 : w12.cell? ⟨gX, 3, none⟩ = some (.slice rA.A3 rA.r.f1.f2.length rA.c3) := (blk_cell HJ.out.x 3).trans rfl
  have cb3 : w12.cell? ⟨gY, 3, none⟩ = some (.slice rB.A3 rB.r.f1.f2.length rB.c3) := (blk_cell HJ.out.y 3).trans rfl
  go_wp2_with fail
  clear ca0 cb0 ca1 cb1 ca2 cb2 ca3 cb3
  refine (watch_Skew.calls k2 rB.A rB.c rB.r.f0 rB.r.f1.f0 rB.r.f1.f1 rB.A3 rB.c3 rB.r.f1.f2 rA.A rA.c rA.r.f0 rA.r.f1.f0 rA.r.f1.f1 rA.A3 rA.c3 rA.r.f1.f2 _ _ w12 HV.out.f.now.r0 HV.out.f.now.c0 HV.out.f.now.r3 HV.out.f.now.c3 HA.out.f.now.r0 HA.out.f.now.c0 HA.out.f.now.r3 HA.out.f.now.c3 S2.out).mono ?_
  rintro e w13 ⟨rfl, hb⟩
  have HJ_ := am (HJ.out.step hb)
  have HA_ := am (HA.out.step hb)
  have HV_ := am (HV.out.step hb)
  clear HJ HA HV hb
  have HJ := HJ_
  have HA := HA_
  have HV := HV_
  clear HJ_ HA_ HV_
  have ca0 : w13.cell? ⟨gX, 0, none⟩ = some (.slice rA.A rA.r.f0.length rA.c) := (blk_cell HJ.out.x 0).trans rfl
  have cb0 : w13.cell? ⟨gY, 0, none⟩ = some (.slice rB.A rB.r.f0.length rB.c) := (blk_cell HJ.out.y 0).trans rfl
  have ca1 : w13.cell? ⟨gX, 1, none⟩ = some (.bool rA.r.f1.f0) := (blk_cell HJ.out.x 1).trans rfl
  have cb1 : w13.cell? ⟨gY, 1, none⟩ = some (.bool rB.r.f1.f0) := (blk_cell HJ.out.y 1).trans rfl
  have ca2 : w13.cell? ⟨gX, 2, none⟩ = some (.int .i64 rA.r.f1.f1) := (blk_cell HJ.out.x 2).trans rfl
  have cb2 : w13.cell? ⟨gY, 2, none⟩ = some (.int .i64 rB.r.f1.f1) := (blk_cell HJ.out.y 2).trans rfl
  have ca3 : w13.cell? ⟨gX, 3, none⟩ = some (.slice rA.A3 rA.r.f1.f2.length rA.c3) := (blk_cell HJ.out.x 3).trans rfl
  have cb3 : w13.cell? ⟨gY, 3, none⟩ = some (.slice rB.A3 rB.r.f1.f2.length rB.c3) := (blk_cell HJ.out.y 3).trans rfl
  go_wp2_with fail
  clear ca0 cb0 ca1 cb1 ca2 cb2 ca3 cb3
  refine (watch_Skew.calls k3 rA.A rA.c rA.r.f0 rA.r.f1.f0 rA.r.f1.f1 rA.A3 rA.c3 rA.r.f1.f2 rA.A rA.c rA.r.f0 rA.r.f1.f0 rA.r.f1.f1 rA.A3 rA.c3 rA.r.f1.f2 _ _ w13 HA.out.f.now.r0 HA.out.f.now.c0 HA.out.f.now.r3 HA.out.f.now.c3 HA.out.f.now.r0 HA.out.f.now.c0 HA.out.f.now.r3 HA.out.f.now.c3 S3.out).mono ?_
  rintro e w14 ⟨rfl, hb⟩
  have HJ_ := am (HJ.out.step hb)
  have HA_ := am (HA.out.step hb)
  have HV_ := am (HV.out.step hb)
  clear HJ HA HV hb
  have HJ := HJ_
  have HA := HA_
  have HV := HV_
  clear HJ_ HA_ HV_
  have ca0 : w14.cell? ⟨gX, 0, none⟩ = some (.slice rA.A rA.r.f0.length rA.c) := (blk_cell HJ.out.x 0).trans rfl
  have cb0 : w14.cell? ⟨gY, 0, none⟩ = some (.slice rB.A rB.r.f0.length rB.c) := (blk_cell HJ.out.y 0).trans rfl
  have ca1 : w14.cell? ⟨gX, 1, none⟩ = some (.bool rA.r.f1.f0) := (blk_cell HJ.out.x 1).trans rfl
  have cb1 : w14.cell? ⟨gY, 1, none⟩ = some (.bool rB.r.f1.f0) := (blk_cell HJ.out.y 1).trans rfl
  have ca2 : w14.cell? ⟨gX, 2, none⟩ = some (.int .i64 rA.r.f1.f1) := (blk_cell HJ.out.x 2).trans rfl
  have cb2 : w14.cell? ⟨gY, 2, none⟩ = some (.int .i64 rB.r.f1.f1) := (blk_cell HJ.out.y 2).trans rfl
  have ca3 : w14.cell? ⟨gX, 3, none⟩ = some (.slice rA.A3 rA.r.f1.f2.length rA.c3) := (blk_cell HJ.out.x 3).trans rfl
  have cb3 : w14.cell? ⟨gY, 3, none⟩ = some (.slice rB.A3 rB.r.f1.f2.length rB.c3) := (blk_cell HJ.out.y 3).trans rfl
  go_wp2_with fail
  clear ca0 cb0 ca1 cb1 ca2 cb2 ca3 cb3
  refine (watch_Spread.calls k4 rA.A rA.c rA.r.f0 rA.r.f1.f0 rA.r.f1.f1 rA.A3 rA.c3 rA.r.f1.f2 _ _ w14 HA.out.f.now.r0 HA.out.f.now.c0 HA.out.f.now.r3 HA.out.f.now.c3 S4.out).mono ?_
  rintro e w15 ⟨rfl, hb⟩
  have HJ_ := am (HJ.out.step hb)
  have HA_ := am (HA.out.step hb)
  have HV_ := am (HV.out.step hb)
  clear HJ HA HV hb
  have HJ := HJ_
  have HA := HA_
  have HV := HV_
  clear HJ_ HA_ HV_
  have ca0 : w15.cell? ⟨gX, 0, none⟩ = some (.slice rA.A rA.r.f0.length rA.c) := (blk_cell HJ.out.x 0).trans rfl
  have cb0 : w15.cell? ⟨gY, 0, none⟩ = some (.slice rB.A rB.r.f0.length rB.c) := (blk_cell HJ.out.y 0).trans rfl
  have ca1 : w15.cell? ⟨gX, 1, none⟩ = some (.bool rA.r.f1.f0) := (blk_cell HJ.out.x 1).trans rfl
  have cb1 : w15.cell? ⟨gY, 1, none⟩ = some (.bool rB.r.f1.f0) := (blk_cell HJ.out.y 1).trans rfl
  have ca2 : w15.cell? ⟨gX, 2, none⟩ = some (.int .i64 rA.r.f1.f1) := (blk_cell HJ.out.x 2).trans rfl
  have cb2 : w15.cell? ⟨gY, 2, none⟩ = some (.int .i64 rB.r.f1.f1) := (blk_cell HJ.out.y 2).trans rfl
  have ca3 : w15.cell? ⟨gX, 3, none⟩ = some (.slice rA.A3 rA.r.f1.f2.length rA.c3) := (blk_cell HJ.out.x 3).trans rfl
  have cb3 : w15.cell? ⟨gY, 3, none⟩ = some (.slice rB.A3 rB.r.f1.f2.length rB.c3) := (blk_cell HJ.out.y 3).trans rfl
  have cc0 : w15.cell? ⟨bC, 0, none⟩ = some (.slice AP P.length cP) := (blk_cell HJ.out.c 0).trans rfl
  have cc1 : w15.cell? ⟨bC, 1, none⟩ = some (.slice AQ Q.length cQ) := (blk_cell HJ.out.c 1).trans rfl
  have cc2 : w15.cell? ⟨bC, 2, none⟩ = some (.int .i64 cyc) := (blk_cell HJ.out.c 2).trans rfl
  have cc3 : w15.cell? ⟨bC, 3, none⟩ = some (.int .i64 60) := (blk_cell HJ.out.c 3).trans rfl
  have cc4 : w15.cell? ⟨bC, 4, none⟩ = some (.int .i64 100) := (blk_cell HJ.out.c 4).trans rfl
  have cc5 : w15.cell? ⟨bC, 5, none⟩ = some (.int .i64 wd) := (blk_cell HJ.out.c 5).trans rfl
  have cc6 : w15.cell? ⟨bC, 6, none⟩ = some (.int .i64 dr) := (blk_cell HJ.out.c 6).trans rfl
  have cc7 : w15.cell? ⟨bC, 7, none⟩ = some (.int .i64 300000) := (blk_cell HJ.out.c 7).trans rfl
  have cc8 : w15.cell? ⟨bC, 8, none⟩ = some (.int .i64 ag) := (blk_cell HJ.out.c 8).trans rfl
  have cc9 : w15.cell? ⟨bC, 9, none⟩ = some (.int .i64 lo) := (blk_cell HJ.out.c 9).trans rfl
  have cc10 : w15.cell? ⟨bC, 10, none⟩ = some (.int .i64 li) := (blk_cell HJ.out.c 10).trans rfl
  have cc11 : w15.cell? ⟨bC, 11, none⟩ = some (.int .i64 sp) := (blk_cell HJ.out.c 11).trans rfl
  have cc12 : w15.cell? ⟨bC, 12, none⟩ = some (.int .i64 12) := (blk_cell HJ.out.c 12).trans rfl
  have e3 : (u1 == u1) = true := beq_self_eq_true u1
  have e4 : (u2 == u2) = true := beq_self_eq_true u2
  have e5 : (v1 == v1) = true := beq_self_eq_true v1
  have e6 : (v2 == v2) = true := beq_self_eq_true v2
  go_wp2_with fail
  clear ca0 cb0 ca1 cb1 ca2 cb2 ca3 cb3
  clear cc0 cc1 cc2 cc3 cc4 cc5 cc6 cc7 cc8 cc9 cc10 cc11 cc12
  have hlq := HLN.out.1
  refine (right17_walk AP cP P AQ cQ Q cyc 60 100 wd dr 300000 ag lo li sp 12 p rA.A rA.c rA.r.f0 rA.r.f1.f0 rA.r.f1.f1 rA.A3 rA.c3 rA.r.f1.f2 100 w15 (HN.out.below HJ.out.b) HA.out.f.now (HFT.out p HPP.out.1 (by have := HPP.out; omega)) HPP.out (by rw [HA.out.d.l]; exact HMB.out) (by have h1 : rA.r.f0.length = m := HA.out.d.l; have h2 := HMA.out.m; omega) (fun z hz => node_right HGO.out (by have := HLN.out; omega) (by have := HLN.out; omega) (by rw [hlq]; exact HA.out.d.n z hz)) (time_ok (by have := HA.out.d.s; omega)) ?_).mono ?_
  ·cases hon : rA.r.f1.f0 with
   | true => exact ages_ok HGO.out (by have := HLN.out; omega) (by rw [hlq]; exact HA.out.d.g hon)
   | false => rw [HA.out.d.e hon]; exact ages_off
  rintro e w20 ⟨rfl, hb⟩
  have HBZ := am (below_step (below_step HB.out HJ.out.b) hb)
  clear hb
  go_wp2_with fail
  go_ret
  exact ⟨rfl, HBZ.out⟩
end Go.Proofs.YtbefbhghmommhaaGreatDoor.MWo
