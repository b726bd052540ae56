/- Texts of this claim, laid together by a program (wip/g/merge5.py): HMd. -/
import Derived.Test.YtbefbhghmommhaaGreatDoorZWd24
import Derived.Test.YtbefbhghmommhaaGreatDoorZWd28
import Derived.Test.YtbefbhghmommhaaGreatDoorZWd29
import Derived.Deep.DeepCutAuto
set_option linter.unusedVariables false
set_option linter.unusedSimpArgs false
set_option maxRecDepth 100000
namespace Go.Proofs.YtbefbhghmommhaaGreatDoor.MWo
open Go.RowKit Go.Proofs.YtbefbhghmommhaaGreatDoorW.PrintWords Go.Proofs.YtbefbhghmommhaaGreatDoorW.PrintLast Go.Proofs.YtbefbhghmommhaaGreatDoorW.PrintMore
structure MdI (w wr : World) (CC CX CO : Array Value) (bC bX bR bO : Nat) (ok : Nat → Prop) (v0 : Value) (ns : List S55) : Prop where
 n : Kd.N k55 55 wr w.heap.size (fun k => w.heap.size ≤ k ∧ k ≠ bC ∧ k ≠ bX ∧ k ≠ bR ∧ k ≠ bO ∧ ok k) v0 ns
 c : wr.heap[bC]? = some (.cells CC 25 (0, 0))
 x : wr.heap[bX]? = some (.cells CX 37 (0, 0))
 r : wr.heap[bR]? = some (.cells #[.slice none 0 0, .bool false, .int .i64 0, .slice none 0 0] 37 (0, 0))
 o : wr.heap[bO]? = some (.cells CO 37 (0, 0))
 b : Below w.heap.size w wr
 d : w.heap.size ≤ bO ∧ bC ≠ bO ∧ bX ≠ bO ∧ bR ≠ bO
section
variable {w wr w2 : World} {CC CX CO : Array Value} {bC bX bR bO : Nat} {bN : Nat} {ok : Nat → Prop} {v0 : Value} {ns : List S55}
theorem MdI.drew (h : MdI w wr CC CX CO bC bX bR bO ok v0 ns) : MdI w wr.drew CC CX CO bC bX bR bO ok v0 ns :=
 ⟨Kd.N_drew h.n, blk_drew h.c, blk_drew h.x, blk_drew h.r, blk_drew h.o, h.b.drew, h.d⟩
theorem MdI.step (h : MdI w wr CC CX CO bC bX bR bO ok v0 ns) (k : Below wr.heap.size wr w2) : MdI w w2 CC CX CO bC bX bR bO ok v0 ns :=
 ⟨Kd.N_below h.n k, (k.block bC (blk_lt h.c)).trans h.c, (k.block bX (blk_lt h.x)).trans h.x, (k.block bR (blk_lt h.r)).trans h.r, (k.block bO (blk_lt h.o)).trans h.o, below_step h.b k, h.d⟩
theorem MdI.fresh (h : MdI w wr CC CX CO bC bX bR bO ok v0 ns) (ob : Obj) : MdI w (wr.alloc ob) CC CX CO bC bX bR bO (fun k => k ≠ wr.heap.size) v0 ns :=
 ⟨Kd.N_mono (Kd.N_below (Kd.N_elderB h.n wr.heap.size (Nat.le_refl _)) (below_alloc (Below.refl _ _) ob)) fun i hi => ⟨hi.1.1, hi.1.2.1, hi.1.2.2.1, hi.1.2.2.2.1, hi.1.2.2.2.2.1, hi.2⟩,
  ((below_alloc (Below.refl _ _) ob).block bC (blk_lt h.c)).trans h.c, ((below_alloc (Below.refl _ _) ob).block bX (blk_lt h.x)).trans h.x, ((below_alloc (Below.refl _ _) ob).block bR (blk_lt h.r)).trans h.r, ((below_alloc (Below.refl _ _) ob).block bO (blk_lt h.o)).trans h.o, below_alloc h.b ob, h.d⟩
theorem MdI.put (h : MdI w wr CC CX CO bC bX bR bO (fun k => k ≠ bN) v0 ns) (hd : w.heap.size ≤ bN ∧ bC ≠ bN ∧ bX ≠ bN ∧ bR ≠ bN ∧ bO ≠ bN) (i : Nat) (u : Value) : MdI w (wr.setCell ⟨bN, i, none⟩ u) CC CX CO bC bX bR bO (fun k => k ≠ bN) v0 ns :=
 ⟨Kd.N_far h.n (fun _ hk => hk.2.2.2.2.2) u, blk_far h.c hd.2.1 u, blk_far h.x hd.2.2.1 u, blk_far h.r hd.2.2.2.1 u, blk_far h.o hd.2.2.2.2 u, below_set h.b hd.1, h.d⟩
end
theorem MdI.putO {w wr : World} {CC CX CO : Array Value} {bC bX bR bO : Nat} {ok : Nat → Prop} {v0 : Value} {ns : List S55} (h : MdI w wr CC CX CO bC bX bR bO ok v0 ns) (i : Nat) (u : Value) {CO' : Array Value} (e : CO.setIfInBounds i u = CO') : MdI w (wr.setCell ⟨bO, i, none⟩ u) CC CX CO' bC bX bR bO ok v0 ns :=
 ⟨Kd.N_far h.n (fun _ hk => hk.2.2.2.2.1) u, blk_far h.c h.d.2.1 u, blk_far h.x h.d.2.2.1 u, blk_far h.r h.d.2.2.2 u, blk_put h.o i u e, below_set h.b h.d.1, h.d⟩
theorem tm30 (x : Int) : -1073741824 < x.tmod 1073741824 ∧ x.tmod 1073741824 < 1073741824 := by
 have h1 := Int.tmod_lt_of_pos x (show (0 : Int) < 1073741824 by decide)
 have h2 := Int.tmod_lt_of_pos (-x) (show (0 : Int) < 1073741824 by decide)
 rw [Int.neg_tmod] at h2
 omega
theorem md_nil {w : World} {ok : Nat → Prop} (A : Option Addr) : Kd.F (Kd.int .i64) w ok A ([] : List Int).length [] := fun _ _ => ⟨rfl, by simp, fun h => absurd h (Nat.lt_irrefl 0)⟩
theorem cell_far {w : World} {p q : Addr} {u v : Value} (h : w.cell? q = some v) (hne : q.block ≠ p.block) : (w.setCell p u).cell? q = some v := (World.cell?_setCell_other w p q u (fun e => hne (e ▸ rfl))).trans h
structure MdN (w wr : World) (bC bX bR bO bN : Nat) (y : S55) (A5 : Option Addr) (c5 : Nat) : Prop where
 blk : wr.heap[bN]? = some (.cells #[.int .i64 y.f0, .int .i64 y.f1, .int .i64 y.f2, .int .i64 y.f3, .int .i64 y.f4, .slice A5 y.f5.length c5, .int .i64 y.f6, .int .i64 y.f7] 55 (0, 0))
 h5 : Kd.C (Kd.int .i64) w A5 y.f5.length y.f5
 c5 : y.f5.length ≤ c5
 l5 : y.f5.length ≤ 1000
 d : w.heap.size ≤ bN ∧ bC ≠ bN ∧ bX ≠ bN ∧ bR ≠ bN ∧ bO ≠ bN
theorem MdN.step {w wr w2 : World} {bC bX bR bO bN : Nat} {y : S55} {A5 : Option Addr} {c5 : Nat} (h : MdN w wr bC bX bR bO bN y A5 c5) (k : Below wr.heap.size wr w2) : MdN w w2 bC bX bR bO bN y A5 c5 :=
 ⟨(k.block bN (blk_lt h.blk)).trans h.blk, h.h5, h.c5, h.l5, h.d⟩
theorem MdN.drew {w wr : World} {bC bX bR bO bN : Nat} {y : S55} {A5 : Option Addr} {c5 : Nat} (h : MdN w wr bC bX bR bO bN y A5 c5) : MdN w wr.drew bC bX bR bO bN y A5 c5 :=
 ⟨blk_drew h.blk, h.h5, h.c5, h.l5, h.d⟩
theorem md_new {w wr : World} {CC CX CO : Array Value} {bC bX bR bO : Nat} {v0 : Value} {ns : List S55} (h : MdI w wr CC CX CO bC bX bR bO (fun _ => True) v0 ns) (y : S55) (A5 : Option Addr) (c5 : Nat) (h5 : Kd.C (Kd.int .i64) w A5 y.f5.length y.f5) (hc : y.f5.length ≤ c5) (hl : y.f5.length ≤ 1000) :
  MdI w (wr.alloc (.cells #[.int .i64 y.f0, .int .i64 y.f1, .int .i64 y.f2, .int .i64 y.f3, .int .i64 y.f4, .slice A5 y.f5.length c5, .int .i64 y.f6, .int .i64 y.f7] 55)) CC CX CO bC bX bR bO (fun k => k ≠ wr.heap.size) v0 ns ∧ MdN w (wr.alloc (.cells #[.int .i64 y.f0, .int .i64 y.f1, .int .i64 y.f2, .int .i64 y.f3, .int .i64 y.f4, .slice A5 y.f5.length c5, .int .i64 y.f6, .int .i64 y.f7] 55)) bC bX bR bO wr.heap.size y A5 c5 := by
 have l1 := blk_lt h.c
 have l2 := blk_lt h.x
 have l3 := blk_lt h.r
 have l4 := blk_lt h.o
 exact ⟨h.fresh _, heap_alloc_new wr _, h5, hc, hl, h.b.size, by omega, by omega, by omega, by omega⟩
structure CellF (w : World) (ok : Nat → Prop) (x : S37) (A : Option Addr) (c : Nat) (A3 : Option Addr) (c3 : Nat) : Prop where
 r0 : Kd.F k55 w ok A x.f0.length x.f0
 c0 : x.f0.length ≤ c
 r3 : Kd.F (Kd.int .i64) w ok A3 x.f1.f2.length x.f1.f2
 c3 : x.f1.f2.length ≤ c3
section
variable {w w2 : World} {ok : Nat → Prop} {x : S37} {A : Option Addr} {c : Nat} {A3 : Option Addr} {c3 : Nat}
theorem CellF.now (h : CellF w ok x A c A3 c3) : CellAt w x A c A3 c3 := ⟨Kd.F_now h.r0, h.c0, Kd.F_now h.r3, h.c3⟩
theorem CellF.step (h : CellF w ok x A c A3 c3) (k : Below w.heap.size w w2) : CellF w2 ok x A c A3 c3 := ⟨Kd.F_below h.r0 k, h.c0, Kd.F_below h.r3 k, h.c3⟩
theorem CellF.mono (h : CellF w ok x A c A3 c3) {ok' : Nat → Prop} (k : ∀ q, ok q → ok' q) : CellF w ok' x A c A3 c3 := ⟨Kd.F_mono h.r0 k, h.c0, Kd.F_mono h.r3 k, h.c3⟩
theorem CellF.bound (h : CellF w ok x A c A3 c3) : CellF w (fun q => ok q ∧ q < w.heap.size) x A c A3 c3 := ⟨Kd.F_bound h.r0, h.c0, Kd.F_bound h.r3, h.c3⟩
end
theorem md_store {w W0 W : World} {CC CX CO : Array Value} {bC bX bR bO bN g m co k : Nat} {ns : List S55} (h0 : MdI w W0 CC CX CO bC bX bR bO (fun q => q ≠ bN) (.slice (some ⟨g, 0, none⟩) m co) ns) (hN : bN < W0.heap.size) (hb : Below W0.heap.size W0 W) (hk : k < m)
  (z : S55) {A5 : Option Addr} {c5 : Nat} (hv : Kd.R (Kd.int .i64) 3 W W0.heap.size (fun _ => True) (.slice A5 z.f5.length c5) z.f5) :
  MdI w ((((((((W.setCell ⟨g, k * 8, none⟩ (.int .i64 z.f0)).setCell ⟨g, k * 8 + 1, none⟩ (.int .i64 z.f1)).setCell ⟨g, k * 8 + 2, none⟩ (.int .i64 z.f2)).setCell ⟨g, k * 8 + 3, none⟩ (.int .i64 z.f3)).setCell ⟨g, k * 8 + 4, none⟩ (.int .i64 z.f4)).setCell ⟨g, k * 8 + 5, none⟩ (.slice A5 z.f5.length c5)).setCell ⟨g, k * 8 + 6, none⟩ (.int .i64 z.f6)).setCell ⟨g, k * 8 + 7, none⟩ (.int .i64 z.f7)) CC CX CO bC bX bR bO (fun _ => True) (.slice (some ⟨g, 0, none⟩) m co) (ns.set k z) := by
 have h := h0.step hb
 obtain ⟨_, hg1, hg2, hg3, hg4, hg5⟩ := h0.n.1 g rfl
 have hg0 : w.heap.size ≤ g := (h0.n.1 g rfl).1
 have hgl : g < W0.heap.size := (Kd.N_bound h0.n).1 g rfl |>.2
 have l1 := blk_lt h0.c
 have l2 := blk_lt h0.x
 have l3 := blk_lt h0.r
 have l4 := blk_lt h0.o
 have l5 := h0.b.size
 have hF := Kd.R_mono (ok' := fun q => (w.heap.size ≤ q ∧ q ≠ bC ∧ q ≠ bX ∧ q ≠ bR ∧ q ≠ bO ∧ q ≠ bN) ∧ q ≠ g) (Kd.R_bound hv) (fun q hq => ⟨⟨by omega, by omega, by omega, by omega, by omega, by omega⟩, by omega⟩)
 obtain ⟨ce, hcl, hM, hcc, hfr⟩ := Kd.N_elem h.n z55 (k : Int) (by omega) (by omega)
 obtain ⟨u5, d5, rfl, _, _⟩ := k55_openF hM
 have hP := (Kd.N_seg h.n (k : Int) (by omega) (by omega) (seg := [.int .i64 z.f0, .int .i64 z.f1, .int .i64 z.f2, .int .i64 z.f3, .int .i64 z.f4, .slice A5 z.f5.length c5, .int .i64 z.f6, .int .i64 z.f7]) (j := 0) hcl hcc (show 8 ≤ 8 from by decide) (x' := z) (k55_mkF _ _ z (Kd.R_reads' hF).2.1 (Kd.R_F hF)) (fun _ hq => hq)).1
 exact ⟨Kd.N_mono hP fun q hq => ⟨hq.1, hq.2.1, hq.2.2.1, hq.2.2.2.1, hq.2.2.2.2.1, trivial⟩,
  blk_far (blk_far (blk_far (blk_far (blk_far (blk_far (blk_far (blk_far h.c (Ne.symm hg1) _) (Ne.symm hg1) _) (Ne.symm hg1) _) (Ne.symm hg1) _) (Ne.symm hg1) _) (Ne.symm hg1) _) (Ne.symm hg1) _) (Ne.symm hg1) _,
  blk_far (blk_far (blk_far (blk_far (blk_far (blk_far (blk_far (blk_far h.x (Ne.symm hg2) _) (Ne.symm hg2) _) (Ne.symm hg2) _) (Ne.symm hg2) _) (Ne.symm hg2) _) (Ne.symm hg2) _) (Ne.symm hg2) _) (Ne.symm hg2) _,
  blk_far (blk_far (blk_far (blk_far (blk_far (blk_far (blk_far (blk_far h.r (Ne.symm hg3) _) (Ne.symm hg3) _) (Ne.symm hg3) _) (Ne.symm hg3) _) (Ne.symm hg3) _) (Ne.symm hg3) _) (Ne.symm hg3) _) (Ne.symm hg3) _,
  blk_far (blk_far (blk_far (blk_far (blk_far (blk_far (blk_far (blk_far h.o (Ne.symm hg4) _) (Ne.symm hg4) _) (Ne.symm hg4) _) (Ne.symm hg4) _) (Ne.symm hg4) _) (Ne.symm hg4) _) (Ne.symm hg4) _) (Ne.symm hg4) _,
  below_set (below_set (below_set (below_set (below_set (below_set (below_set (below_set h.b hg0) hg0) hg0) hg0) hg0) hg0) hg0) hg0, h.d⟩
structure CelOk (xs : List S55) (ag : List Int) : Prop where
 l : xs.length ≤ 1000
 x : ∀ z ∈ xs, z.f5.length ≤ 1000
 a : ag.length ≤ 1000
structure MdF (P : List S68) (L : List S71) (a2 a3 a4 a5 a6 a7 a8 a9 a10 a11 a12 part : Int) (m KR : Nat) (Pn : S55 → Prop) (Pl : List Int → Prop) : Prop where
 new : dr17_New.f P L a2 a3 a4 a5 a6 a7 a8 a9 a10 a11 a12 part = some (List.replicate m z55, false, 0, [])
 held : ∀ y : S55, y.f5.length ≤ 1000 → ∃ z : S55, dl19_held.f KR P L a2 a3 a4 a5 a6 a7 a8 a9 a10 a11 a12 y.f0 y.f1 y.f2 y.f3 y.f4 y.f5 y.f6 y.f7 = some (z.f0, z.f1, z.f2, z.f3, z.f4, z.f5, z.f6, z.f7) ∧ Pn z
 whole : ∀ l : List Int, l.length ≤ 1000 → ∃ l', dl19_whole.f KR P L a2 a3 a4 a5 a6 a7 a8 a9 a10 a11 a12 l = some l' ∧ Pl l'
 m : m ≤ 1000
structure MdR (m : Nat) (Pn : S55 → Prop) (Pl : List Int → Prop) (r : S37) : Prop where
 l : r.f0.length = m
 n : ∀ z ∈ r.f0, Pn z
 s : -1073741824 < r.f1.f1 ∧ r.f1.f1 < 1073741824
 g : r.f1.f0 = true → Pl r.f1.f2
 e : r.f1.f0 = false → r.f1.f2 = []
set_option maxHeartbeats 8000000 in
theorem made19_walk (A0 : Option Addr) (c0 : Nat) (P : List S68) (A1 : Option Addr) (c1 : Nat) (L : List S71) (a2 a3 a4 a5 a6 a7 a8 a9 a10 a11 a12 part : Int) (A : Option Addr) (c : Nat) (xs : List S55) (on : Bool) (st : Int) (A3 : Option Addr) (c3 : Nat) (ag : List Int) (alike : Bool) (m KR : Nat) (Pn : S55 → Prop) (Pl : List Int → Prop) (w : World) (hN : NetAt w P A0 c0 L A1 c1) (hX : CellAt w ⟨xs, ⟨on, st, ag⟩⟩ A c A3 c3) (hx : CelOk xs ag) (hf : MdF P L a2 a3 a4 a5 a6 a7 a8 a9 a10 a11 a12 part m KR Pn Pl) :
  Calls Tryz.prog 14 #[.agg #[.slice A0 P.length c0, .slice A1 L.length c1, .int .i64 a2, .int .i64 a3, .int .i64 a4, .int .i64 a5, .int .i64 a6, .int .i64 a7, .int .i64 a8, .int .i64 a9, .int .i64 a10, .int .i64 a11, .int .i64 a12], .int .i64 part, .agg #[.slice A xs.length c, .bool on, .int .i64 st, .slice A3 ag.length c3], .bool alike] w fun e w' => ∃ r A' c' A3' c3', e = .returned (.agg (cellV r A' c' A3' c3')) ∧ CellF w' (fun q => w.heap.size ≤ q) r A' c' A3' c3' ∧ MdR m Pn Pl r ∧ Below w.heap.size w w' := by
 have HN := am hN
 have HX := am hX
 have HO := am hx
 have HF := am hf
 clear hN hX hx hf
 have b1 := below_alloc (Below.refl w.heap.size w) (.cells #[.slice A0 P.length c0, .slice A1 L.length c1, .int .i64 a2, .int .i64 a3, .int .i64 a4, .int .i64 a5, .int .i64 a6, .int .i64 a7, .int .i64 a8, .int .i64 a9, .int .i64 a10, .int .i64 a11, .int .i64 a12] 25)
 have b2 := below_alloc b1 (.cells #[.slice A xs.length c, .bool on, .int .i64 st, .slice A3 ag.length c3] 37)
 have b3 := below_alloc b2 (.cells #[.slice none 0 0, .bool false, .int .i64 0, .slice none 0 0] 37)
 have hsz : (w.alloc (.cells #[.slice A0 P.length c0, .slice A1 L.length c1, .int .i64 a2, .int .i64 a3, .int .i64 a4, .int .i64 a5, .int .i64 a6, .int .i64 a7, .int .i64 a8, .int .i64 a9, .int .i64 a10, .int .i64 a11, .int .i64 a12] 25)).heap.size = w.heap.size + 1 := Array.size_push _
 have hsz2 : ((w.alloc (.cells #[.slice A0 P.length c0, .slice A1 L.length c1, .int .i64 a2, .int .i64 a3, .int .i64 a4, .int .i64 a5, .int .i64 a6, .int .i64 a7, .int .i64 a8, .int .i64 a9, .int .i64 a10, .int .i64 a11, .int .i64 a12] 25)).alloc (.cells #[.slice A xs.length c, .bool on, .int .i64 st, .slice A3 ag.length c3] 37)).heap.size = w.heap.size + 1 + 1 := (Array.size_push _).trans (by rw [hsz])
 have k1 := ((below_alloc (below_alloc (Below.refl _ _) (.cells #[.slice A xs.length c, .bool on, .int .i64 st, .slice A3 ag.length c3] 37)) (.cells #[.slice none 0 0, .bool false, .int .i64 0, .slice none 0 0] 37)).block w.heap.size (blk_lt (heap_alloc_new w (.cells #[.slice A0 P.length c0, .slice A1 L.length c1, .int .i64 a2, .int .i64 a3, .int .i64 a4, .int .i64 a5, .int .i64 a6, .int .i64 a7, .int .i64 a8, .int .i64 a9, .int .i64 a10, .int .i64 a11, .int .i64 a12] 25)))).trans (heap_alloc_new w (.cells #[.slice A0 P.length c0, .slice A1 L.length c1, .int .i64 a2, .int .i64 a3, .int .i64 a4, .int .i64 a5, .int .i64 a6, .int .i64 a7, .int .i64 a8, .int .i64 a9, .int .i64 a10, .int .i64 a11, .int .i64 a12] 25))
 have k2 := ((below_alloc (Below.refl _ _) (.cells #[.slice none 0 0, .bool false, .int .i64 0, .slice none 0 0] 37)).block _ (blk_lt (heap_alloc_new (w.alloc (.cells #[.slice A0 P.length c0, .slice A1 L.length c1, .int .i64 a2, .int .i64 a3, .int .i64 a4, .int .i64 a5, .int .i64 a6, .int .i64 a7, .int .i64 a8, .int .i64 a9, .int .i64 a10, .int .i64 a11, .int .i64 a12] 25)) (.cells #[.slice A xs.length c, .bool on, .int .i64 st, .slice A3 ag.length c3] 37)))).trans (heap_alloc_new (w.alloc (.cells #[.slice A0 P.length c0, .slice A1 L.length c1, .int .i64 a2, .int .i64 a3, .int .i64 a4, .int .i64 a5, .int .i64 a6, .int .i64 a7, .int .i64 a8, .int .i64 a9, .int .i64 a10, .int .i64 a11, .int .i64 a12] 25)) (.cells #[.slice A xs.length c, .bool on, .int .i64 st, .slice A3 ag.length c3] 37))
 have k3 := heap_alloc_new ((w.alloc (.cells #[.slice A0 P.length c0, .slice A1 L.length c1, .int .i64 a2, .int .i64 a3, .int .i64 a4, .int .i64 a5, .int .i64 a6, .int .i64 a7, .int .i64 a8, .int .i64 a9, .int .i64 a10, .int .i64 a11, .int .i64 a12] 25)).alloc (.cells #[.slice A xs.length c, .bool on, .int .i64 st, .slice A3 ag.length c3] 37)) (.cells #[.slice none 0 0, .bool false, .int .i64 0, .slice none 0 0] 37)
 rw [hsz] at k2
 rw [hsz2] at k3
 have BC := am k1
 have BX := am k2
 have BR := am k3
 have HB := am b3
 clear b1 b2 b3 k1 k2 k3
 go_enter Tryz.func14, Tryz.ntmps14
 go_upto_region 1 with fail
 clear hsz hsz2
 generalize ((w.alloc (.cells #[.slice A0 P.length c0, .slice A1 L.length c1, .int .i64 a2, .int .i64 a3, .int .i64 a4, .int .i64 a5, .int .i64 a6, .int .i64 a7, .int .i64 a8, .int .i64 a9, .int .i64 a10, .int .i64 a11, .int .i64 a12] 25)).alloc (.cells #[.slice A xs.length c, .bool on, .int .i64 st, .slice A3 ag.length c3] 37)).alloc (.cells #[.slice none 0 0, .bool false, .int .i64 0, .slice none 0 0] 37) = w1 at *
 obtain ⟨n0, n1, n2, n3, n4, n5, n6, n7, n8, n9, n10, n11, n12⟩ := cellsK13 BC.out
 go_wp2_with fail
 clear n0 n1 n2 n3 n4 n5 n6 n7 n8 n9 n10 n11 n12
 refine (dr17_New.calls A0 c0 P A1 c1 L a2 a3 a4 a5 a6 a7 a8 a9 a10 a11 a12 part _ _ _ _ w1 (HN.out.below HB.out).p (HN.out.below HB.out).cp (HN.out.below HB.out).q (HN.out.below HB.out).cq HF.out.new).mono ?_
 rintro e w2 ⟨v0, v3, rfl, hv0, hv3, hb⟩
 obtain ⟨A9, c9, rfl⟩ := Kd.R_slice hv3
 have HC9 := am (Kd.R_reads' hv3).2.2
 have hS := Kd.S_bound hv0
 have hSZ := HB.out.size
 have l1 := blk_lt BC.out
 have l2 := blk_lt BX.out
 have l3 := blk_lt BR.out
 have l4 := hb.size
 obtain ⟨Ao, co, rfl⟩ := Kd.N_slice (Kd.S_N hv0)
 rw [List.length_replicate] at hS
 have HI : Aside0 (MdI w (w2.alloc (.cells #[.slice Ao m co, .bool false, .int .i64 0, .slice A9 ([] : List Int).length c9] 37)) #[.slice A0 P.length c0, .slice A1 L.length c1, .int .i64 a2, .int .i64 a3, .int .i64 a4, .int .i64 a5, .int .i64 a6, .int .i64 a7, .int .i64 a8, .int .i64 a9, .int .i64 a10, .int .i64 a11, .int .i64 a12] #[.slice A xs.length c, .bool on, .int .i64 st, .slice A3 ag.length c3] #[.slice Ao m co, .bool false, .int .i64 0, .slice A9 ([] : List Int).length c9] w.heap.size (w.heap.size + 1) (w.heap.size + 1 + 1) w2.heap.size (fun _ => True) (.slice Ao m co) (List.replicate m z55)) := ⟨⟨
  Kd.N_below (Kd.N_mono (Kd.N_lower (Kd.S_N hS) hSZ) fun k hk => ⟨by have := hk.2.1; omega, by have := hk.2.1; omega, by have := hk.2.1; omega, by have := hk.2.1; omega, by have := hk.2.2; omega, trivial⟩) (below_alloc (Below.refl _ _) _),
  ((hb.trans ((below_alloc (Below.refl _ _) _).mono l4)).block _ l1).trans BC.out, ((hb.trans ((below_alloc (Below.refl _ _) _).mono l4)).block _ l2).trans BX.out, ((hb.trans ((below_alloc (Below.refl _ _) _).mono l4)).block _ l3).trans BR.out, heap_alloc_new w2 _,
  below_alloc (below_step HB.out hb) _, ⟨by omega, by omega, by omega, by omega⟩⟩⟩
 clear hS hSZ l1 l2 l3 l4 hv0 hv3 hb BC BX BR HB
 rw [List.length_replicate]
 go_wp2_with fail
 generalize w2.alloc (.cells #[.slice Ao m co, .bool false, .int .i64 0, .slice A9 ([] : List Int).length c9] 37) = w3 at *
 obtain ⟨bO, hbO⟩ : ∃ bO, bO = w2.heap.size := ⟨_, rfl⟩
 obtain ⟨bX, hbX⟩ : ∃ bX, bX = w.heap.size + 1 := ⟨_, rfl⟩
 obtain ⟨bR, hbR⟩ : ∃ bR, bR = w.heap.size + 1 + 1 := ⟨_, rfl⟩
 rw [← hbO, ← hbR, ← hbX] at HI
 rw [← hbO, ← hbR, ← hbX]
 have HRB : Aside0 (w.heap.size ≤ bR) := ⟨by omega⟩
 clear hbO hbX hbR
 go_loopg [10] (m + 1) (fun kq v10 wr => ∃ (k : Nat) (ns : List S55), v10 = .int .i64 k ∧ Aside0 (kq + k = m + 1 ∧ k ≤ m) ∧ Aside0 (MdI w wr #[.slice A0 P.length c0, .slice A1 L.length c1, .int .i64 a2, .int .i64 a3, .int .i64 a4, .int .i64 a5, .int .i64 a6, .int .i64 a7, .int .i64 a8, .int .i64 a9, .int .i64 a10, .int .i64 a11, .int .i64 a12] #[.slice A xs.length c, .bool on, .int .i64 st, .slice A3 ag.length c3] #[.slice Ao m co, .bool false, .int .i64 0, .slice A9 ([] : List Int).length c9] w.heap.size bX bR bO (fun _ => True) (.slice Ao m co) ns) ∧ Aside0 (ns.length = m ∧ ∀ (j : Nat) (h : j < ns.length), j < k → Pn ns[j]))
 case atStart => exact ⟨0, List.replicate m z55, rfl, ⟨by omega⟩, HI, ⟨List.length_replicate, fun _ _ h => absurd h (Nat.not_lt_zero _)⟩⟩
 case round =>
  clear HI
  obtain ⟨k, ns, rfl, HK, HI, HS⟩ := hrel
  obtain ⟨o0, o1, o2, o3⟩ := cellsK4 HI.out.o
  obtain ⟨x0, x1, x2, x3⟩ := cellsK4 HI.out.x
  have hm := HF.out.m
  have HM := am hm
  clear hm
  cases gk with
  | zero => exact absurd HK.out (by omega)
  | succ k1 =>
  by_cases hk : k < m
  ·have d1 : decide (k < m) = true := dT hk
   have d1i : decide ((k : Int) < (m : Int)) = true := dT (by omega)
   have w1i : wrap64 ((k : Int) + 1) = ((k + 1 : Nat) : Int) := by have := HM.out; unfold wrap64; omega
   go_upto_region 6 with fail
   clear d1 d1i
   have hka := below_alloc (Below.refl wr.heap.size wr) (.cells #[.int .i64 0, .int .i64 0, .int .i64 0, .int .i64 0, .int .i64 0, .slice none 0 0, .int .i64 0, .int .i64 0] 55)
   have x0a : (wr.alloc (.cells #[.int .i64 0, .int .i64 0, .int .i64 0, .int .i64 0, .int .i64 0, .slice none 0 0, .int .i64 0, .int .i64 0] 55)).cell? ⟨bX, 0, none⟩ = some (.slice A xs.length c) := (hka.cell (c_lt x0)).trans x0
   clear hka
   go_upto_if 27 with fail
   go_cut [] (fun wx => ∃ y A5 c5, Aside0 (MdI w wx #[.slice A0 P.length c0, .slice A1 L.length c1, .int .i64 a2, .int .i64 a3, .int .i64 a4, .int .i64 a5, .int .i64 a6, .int .i64 a7, .int .i64 a8, .int .i64 a9, .int .i64 a10, .int .i64 a11, .int .i64 a12] #[.slice A xs.length c, .bool on, .int .i64 st, .slice A3 ag.length c3] #[.slice Ao m co, .bool false, .int .i64 0, .slice A9 ([] : List Int).length c9] w.heap.size bX bR bO (fun q => q ≠ wr.heap.size) (.slice Ao m co) ns) ∧ Aside0 (MdN w wx w.heap.size bX bR bO wr.heap.size y A5 c5))
   case first =>
    have hbW := below_alloc HI.out.b (.cells #[.int .i64 0, .int .i64 0, .int .i64 0, .int .i64 0, .int .i64 0, .slice none 0 0, .int .i64 0, .int .i64 0] 55)
    by_cases hi : k < xs.length
    ·have d2 : decide (k < xs.length) = true := dT hi
     obtain ⟨ad, A5, c5, e, y0, y1, y2, y3, y4, y5, y6, y7, hc5, hC5⟩ := at_T55 HX.out.r0 (k : Int) (by omega) (by show (k : Int) < (xs.length : Int); omega)
     cases e
     have hy : rd_T55 xs (k : Int) ∈ xs := by
      have e : rd_T55 xs (k : Int) = xs[k] := by simp [rd_T55, hi]
      rw [e]; exact List.getElem_mem hi
     have HLy := am (HO.out.x _ hy)
     dsimp only at y0 y1 y2 y3 y4 y5 y6 y7 hc5 hC5
     generalize rd_T55 xs (k : Int) = y at *
     have H5 := am hC5
     have H5c := am hc5
     simp only [Int.toNat_natCast] at y0 y1 y2 y3 y4 y5 y6 y7
     have z0 := (hbW.cell (c_lt y0)).trans y0
     have z1 := (hbW.cell (c_lt y1)).trans y1
     have z2 := (hbW.cell (c_lt y2)).trans y2
     have z3 := (hbW.cell (c_lt y3)).trans y3
     have z4 := (hbW.cell (c_lt y4)).trans y4
     have z5 := (hbW.cell (c_lt y5)).trans y5
     have z6 := (hbW.cell (c_lt y6)).trans y6
     have z7 := (hbW.cell (c_lt y7)).trans y7
     clear y0 y1 y2 y3 y4 y5 y6 y7 hc5 hC5 hy hbW
     go_wp2_with fail
     go_meet
     exact ⟨y, A5, c5, ⟨(md_new HI.out y A5 c5 H5.out H5c.out HLy.out).1⟩, ⟨(md_new HI.out y A5 c5 H5.out H5c.out HLy.out).2⟩⟩
    ·have d2 : decide (k < xs.length) = false := dF hi
     clear hbW
     go_wp2_with fail
     go_meet
     exact ⟨z55, none, 0, ⟨(md_new HI.out z55 none 0 (Kd.C_nil (Kd.int .i64) w) (Nat.le_refl 0) (Nat.zero_le _)).1⟩, ⟨(md_new HI.out z55 none 0 (Kd.C_nil (Kd.int .i64) w) (Nat.le_refl 0) (Nat.zero_le _)).2⟩⟩
   case rest =>
    obtain ⟨y, A5, c5, HJ, HY⟩ := hcut
    clear x0a o0 o1 o2 o3 x0 x1 x2 x3 HI
    obtain ⟨bN, hbN⟩ : ∃ bN, bN = wr.heap.size := ⟨_, rfl⟩
    rw [← hbN] at HJ HY
    rw [← hbN]
    clear hbN
    obtain ⟨x0, x1, x2, x3⟩ := cellsK4 HJ.out.x
    go_upto_region 8 with fail
    go_cut [39] (fun s39 wx => s39 = .bool (alike && decide (0 < xs.length)) ∧ wx = wc)
    case first =>
     cases alike with
     | false =>
      go_wp2_with fail
      go_meet
      exact ⟨rfl, rfl⟩
     | true =>
      by_cases h0 : 0 < xs.length
      ·have d3 : decide (0 < xs.length) = true := dT h0
       go_wp2_with fail
       go_meet
       exact ⟨by rw [d3]; rfl, rfl⟩
      ·have d3 : decide (0 < xs.length) = false := dF h0
       go_wp2_with fail
       go_meet
       exact ⟨by rw [d3]; rfl, rfl⟩
    case rest =>
     obtain ⟨rfl, rfl⟩ := hcut
     go_upto_if 39 with fail
     obtain ⟨qa, hqa⟩ : ∃ qa, (alike && decide (0 < xs.length)) = qa := ⟨_, rfl⟩
     have HQ : Aside0 (qa = true → 0 < xs.length) := ⟨fun h => by rw [h] at hqa; simp at hqa; exact hqa.2⟩
     rw [hqa]
     clear hqa
     go_cut [] (fun wx => ∃ y A5 c5, Aside0 (MdI w wx #[.slice A0 P.length c0, .slice A1 L.length c1, .int .i64 a2, .int .i64 a3, .int .i64 a4, .int .i64 a5, .int .i64 a6, .int .i64 a7, .int .i64 a8, .int .i64 a9, .int .i64 a10, .int .i64 a11, .int .i64 a12] #[.slice A xs.length c, .bool on, .int .i64 st, .slice A3 ag.length c3] #[.slice Ao m co, .bool false, .int .i64 0, .slice A9 ([] : List Int).length c9] w.heap.size bX bR bO (fun q => q ≠ bN) (.slice Ao m co) ns) ∧ Aside0 (MdN w wx w.heap.size bX bR bO bN y A5 c5))
     case first =>
      cases qa with
      | false =>
       go_wp2_with fail
       go_meet
       exact ⟨y, A5, c5, HJ, HY⟩
      | true =>
       have h0 := HQ.out rfl
       obtain ⟨ad, B5, d5, e, _, _, _, y3, y4, y5, y6, _, hc5, hC5⟩ := at_T55 HX.out.r0 0 (by omega) (by show (0 : Int) < (xs.length : Int); omega)
       cases e
       have hy : rd_T55 xs 0 ∈ xs := by
        have e : rd_T55 xs 0 = xs[0] := by simp [rd_T55, h0]
        rw [e]; exact List.getElem_mem h0
       have HLy := am (HO.out.x _ hy)
       have v3 : w.cell? ⟨ad.block, ad.off + 3, none⟩ = some (.int .i64 (rd_T55 xs 0).f3) := by simpa [Addr.add] using y3
       have v4 : w.cell? ⟨ad.block, ad.off + 4, none⟩ = some (.int .i64 (rd_T55 xs 0).f4) := by simpa [Addr.add] using y4
       have v5 : w.cell? ⟨ad.block, ad.off + 5, none⟩ = some (.slice B5 (rd_T55 xs 0).f5.length d5) := by simpa [Addr.add] using y5
       have v6 : w.cell? ⟨ad.block, ad.off + 6, none⟩ = some (.int .i64 (rd_T55 xs 0).f6) := by simpa [Addr.add] using y6
       dsimp only at v3 v4 v5 v6 hc5 hC5
       generalize rd_T55 xs 0 = z at *
       have hla : ad.block < w.heap.size := c_lt (a := ⟨ad.block, ad.off + 3, none⟩) v3
       have HZ5 := am (And.intro hC5 hc5)
       have p1 := eq_true (show (0 : Int) < (xs.length : Int) by omega)
       have hne : ad.block ≠ bN := by have := HY.out.d.1; omega
       have hnx : bX ≠ bN := HY.out.d.2.2.1
       have e3 := (HJ.out.b.cell (c_lt v3)).trans v3
       have e4 := (HJ.out.b.cell (c_lt v4)).trans v4
       have e5 := (HJ.out.b.cell (c_lt v5)).trans v5
       have e6 := (HJ.out.b.cell (c_lt v6)).trans v6
       clear y3 y4 y5 y6 hc5 hC5 hy v4 v5 v6
       go_wp2_with fail
       obtain ⟨nn0, nn1, nn2, nn3, nn4, nn5, nn6, nn7⟩ := cellsK8 HY.out.blk
       obtain ⟨ff0, ff1, ff2, ff3, ff4, ff5, ff6, ff7⟩ := frozK8 HY.out.blk
       have dd0 : wc.drew.cell? ⟨bX, 0, none⟩ = some (.slice (some ad) xs.length c) := x0
       have dd1 : wc.drew.cell? ⟨ad.block, ad.off + 4, none⟩ = some (.int .i64 z.f4) := e4
       have dd2 : wc.drew.cell? ⟨ad.block, ad.off + 6, none⟩ = some (.int .i64 z.f6) := e6
       have dd3 : wc.drew.cell? ⟨ad.block, ad.off + 5, none⟩ = some (.slice B5 z.f5.length d5) := e5
       have dd4 : wc.drew.cell? ⟨ad.block, ad.off + 3, none⟩ = some (.int .i64 z.f3) := e3
       refine start_ (n := 21) (S := fun w' => w'.cell? ⟨bX, 0, none⟩ = some (.slice (some ad) xs.length c) ∧ w'.cell? ⟨ad.block, ad.off + 4, none⟩ = some (.int .i64 z.f4) ∧ w'.cell? ⟨ad.block, ad.off + 6, none⟩ = some (.int .i64 z.f6) ∧ w'.cell? ⟨ad.block, ad.off + 5, none⟩ = some (.slice B5 z.f5.length d5) ∧ w'.cell? ⟨ad.block, ad.off + 3, none⟩ = some (.int .i64 z.f3)) (ds := []) #[false, false, false, false, false, false, false, false, false, false, false, false, false, false, false, false, false, false, false, false, false] (by kernel_rfl) rfl rfl ⟨dd0, dd1, dd2, dd3, dd4⟩ (fun hHeld => ?_)
       refine pu 0 40 ?_
       refine pu 5 45 ?_
       refine pu 10 50 ?_
       refine tk5 1 41 ?_
       refine pu 2 42 ?_
       refine pu 3 43 ?_
       refine tk5 4 44 ?_
       refine pu 15 55 ?_
       refine tk5 6 46 ?_
       refine pu 7 47 ?_
       refine pu 8 48 ?_
       refine tk5 9 49 ?_
       refine tk5 11 51 ?_
       refine pu 12 52 ?_
       refine pu 13 53 ?_
       refine tk5 14 54 ?_
       refine onn 16 (fun K hK => ?_)
       refine skip_ (w1 := ?_) (by rfl) rfl ?_ ?_
       rotate_left
       ·go_simp
        rfl
       clear hHeld
       refine hK.out _ _ ⟨(cell_far dd0 hnx), (cell_far dd1 hne), (cell_far dd2 hne), (cell_far dd3 hne), (cell_far dd4 hne)⟩ (fun hHeld => ?_)
       clear hK K
       refine pu 17 56 ?_
       refine onn 18 (fun K hK => ?_)
       refine skip_ (w1 := ?_) (by rfl) rfl ?_ ?_
       rotate_left
       ·go_simp
        rfl
       clear hHeld
       refine hK.out _ _ ⟨(cell_far (cell_far dd0 hnx) hnx), (cell_far (cell_far dd1 hne) hne), (cell_far (cell_far dd2 hne) hne), (cell_far (cell_far dd3 hne) hne), (cell_far (cell_far dd4 hne) hne)⟩ (fun hHeld => ?_)
       clear hK K
       refine pu 19 57 ?_
       refine onn 20 (fun K hK => ?_)
       refine skip_ (w1 := ?_) (by rfl) rfl ?_ ?_
       rotate_left
       ·go_simp
        rfl
       clear hHeld
       refine hK.out _ _ ⟨(cell_far (cell_far (cell_far dd0 hnx) hnx) hnx), (cell_far (cell_far (cell_far dd1 hne) hne) hne), (cell_far (cell_far (cell_far dd2 hne) hne) hne), (cell_far (cell_far (cell_far dd3 hne) hne) hne), (cell_far (cell_far (cell_far dd4 hne) hne) hne)⟩ (fun hHeld => ?_)
       clear hK K
       refine done_ (by kernel_rfl) ?_
       clear hHeld
       go_wp2_with fail
       have HJ2 := am (MdI.drew (((HJ.out.put HY.out.d 4 (.int .i64 z.f4)).put HY.out.d 6 (.int .i64 z.f6)).put HY.out.d 5 (.slice B5 z.f5.length d5)))
       have HY2 : Aside0 (MdN w ((((wc.setCell ⟨bN, 4, none⟩ (.int .i64 z.f4)).setCell ⟨bN, 6, none⟩ (.int .i64 z.f6)).setCell ⟨bN, 5, none⟩ (.slice B5 z.f5.length d5)).drew) w.heap.size bX bR bO bN ⟨y.f0, y.f1, y.f2, y.f3, z.f4, z.f5, z.f6, y.f7⟩ B5 d5) := ⟨⟨blk_drew (blk_put (blk_put (blk_put HY.out.blk 4 _ rfl) 6 _ rfl) 5 _ rfl), HZ5.out.1, HZ5.out.2, HLy.out, HY.out.d⟩⟩
       clear e3 e4 e5 e6 x0 x1 x2 x3
       clear nn0 ff0 nn1 ff1 nn2 ff2 nn3 ff3 nn4 ff4 nn5 ff5 nn6 ff6 nn7 ff7
       clear dd0 dd1 dd2 dd3 dd4
       generalize (((wc.setCell ⟨bN, 4, none⟩ (.int .i64 z.f4)).setCell ⟨bN, 6, none⟩ (.int .i64 z.f6)).setCell ⟨bN, 5, none⟩ (.slice B5 z.f5.length d5)).drew = w5 at *
       obtain ⟨x0, x1, x2, x3⟩ := cellsK4 HJ2.out.x
       obtain ⟨nn0, nn1, nn2, nn3, nn4, nn5, nn6, nn7⟩ := cellsK8 HY2.out.blk
       obtain ⟨ff0, ff1, ff2, ff3, ff4, ff5, ff6, ff7⟩ := frozK8 HY2.out.blk
       have e3 := (HJ2.out.b.cell (c_lt v3)).trans v3
       go_wp2_with fail
       have ee0 : w5.drew.cell? ⟨bX, 0, none⟩ = some (.slice (some ad) xs.length c) := x0
       have ee1 : w5.drew.cell? ⟨ad.block, ad.off + 3, none⟩ = some (.int .i64 z.f3) := e3
       have ee2 : w5.drew.cell? ⟨bN, 3, none⟩ = some (.int .i64 y.f3) := nn3
       refine start_ (n := 12) (S := fun w' => w'.cell? ⟨bX, 0, none⟩ = some (.slice (some ad) xs.length c) ∧ w'.cell? ⟨ad.block, ad.off + 3, none⟩ = some (.int .i64 z.f3) ∧ w'.cell? ⟨bN, 3, none⟩ = some (.int .i64 y.f3)) (ds := [11]) #[false, false, false, false, false, false, false, false, false, false, false, false] (by kernel_rfl) rfl rfl ⟨ee0, ee1, ee2⟩ (fun hHeld => ?_)
       refine pu 0 58 ?_
       refine pu 6 64 ?_
       refine tk3 1 59 ?_
       refine pu 2 60 ?_
       refine pu 3 61 ?_
       refine tk3 4 62 ?_
       refine pu 5 63 ?_
       refine tk3 7 65 ?_
       refine pu 8 66 ?_
       refine pu 9 67 ?_
       refine pu 10 68 ?_
       refine lan 11 (fun K hK => ?_)
       refine skip_ (w1 := ?_) (by rfl) rfl ?_ ?_
       rotate_left
       ·go_simp
        rfl
       refine hK.out _ _ ?_
       clear hK K
       refine done_ (by kernel_rfl) ?_
       clear hHeld
       go_wp2_with fail
       go_meet
       exact ⟨⟨y.f0, y.f1, y.f2, wrap64 (z.f3.tmod 1073741824 + y.f3.tmod 5), z.f4, z.f5, z.f6, y.f7⟩, B5, d5, ⟨(HJ2.out.put HY2.out.d 3 _).drew⟩, ⟨⟨blk_drew (blk_put HY2.out.blk 3 _ rfl), HY2.out.h5, HY2.out.c5, HY2.out.l5, HY2.out.d⟩⟩⟩
     case rest =>
      clear HJ HY x0 x1 x2 x3 HQ
      obtain ⟨y, A5, c5, HJ, HY⟩ := hcut
      go_upto_region 11 with fail
      obtain ⟨z, hz, hPz⟩ := HF.out.held y HY.out.l5
      have HZ := am hz
      have HPZ := am hPz
      clear hz hPz
      obtain ⟨g, cap, he, _, _, cells, hG⟩ := Kd.N_form HJ.out.n (by have := HS.out.1; omega)
      have HG := am hG
      injection he with e1 e2 e3
      subst e1
      clear e2 hG
      subst e3
      obtain ⟨o0, o1, o2, o3⟩ := cellsK4 HJ.out.o
      obtain ⟨n0, n1, n2, n3, n4, n5, n6, n7, n8, n9, n10, n11, n12⟩ := cellsK13 HJ.out.c
      obtain ⟨nn0, nn1, nn2, nn3, nn4, nn5, nn6, nn7⟩ := cellsK8 HY.out.blk
      have p0_ := eq_true (show (0 : Int) ≤ (k : Int) by omega)
      have p1_ := eq_true (show (k : Int) < (m : Int) by omega)
      have dd0 : wc.drew.cell? ⟨bO, 0, none⟩ = some (.slice (some ⟨g, 0, none⟩) m co) := o0
      have dd1 : wc.drew.cell? ⟨w.heap.size, 0, none⟩ = some (.slice A0 P.length c0) := n0
      have dd2 : wc.drew.cell? ⟨w.heap.size, 1, none⟩ = some (.slice A1 L.length c1) := n1
      have dd3 : wc.drew.cell? ⟨w.heap.size, 2, none⟩ = some (.int .i64 a2) := n2
      have dd4 : wc.drew.cell? ⟨w.heap.size, 3, none⟩ = some (.int .i64 a3) := n3
      have dd5 : wc.drew.cell? ⟨w.heap.size, 4, none⟩ = some (.int .i64 a4) := n4
      have dd6 : wc.drew.cell? ⟨w.heap.size, 5, none⟩ = some (.int .i64 a5) := n5
      have dd7 : wc.drew.cell? ⟨w.heap.size, 6, none⟩ = some (.int .i64 a6) := n6
      have dd8 : wc.drew.cell? ⟨w.heap.size, 7, none⟩ = some (.int .i64 a7) := n7
      have dd9 : wc.drew.cell? ⟨w.heap.size, 8, none⟩ = some (.int .i64 a8) := n8
      have dd10 : wc.drew.cell? ⟨w.heap.size, 9, none⟩ = some (.int .i64 a9) := n9
      have dd11 : wc.drew.cell? ⟨w.heap.size, 10, none⟩ = some (.int .i64 a10) := n10
      have dd12 : wc.drew.cell? ⟨w.heap.size, 11, none⟩ = some (.int .i64 a11) := n11
      have dd13 : wc.drew.cell? ⟨w.heap.size, 12, none⟩ = some (.int .i64 a12) := n12
      have dd14 : wc.drew.cell? ⟨bN, 0, none⟩ = some (.int .i64 y.f0) := nn0
      have dd15 : wc.drew.cell? ⟨bN, 1, none⟩ = some (.int .i64 y.f1) := nn1
      have dd16 : wc.drew.cell? ⟨bN, 2, none⟩ = some (.int .i64 y.f2) := nn2
      have dd17 : wc.drew.cell? ⟨bN, 3, none⟩ = some (.int .i64 y.f3) := nn3
      have dd18 : wc.drew.cell? ⟨bN, 4, none⟩ = some (.int .i64 y.f4) := nn4
      have dd19 : wc.drew.cell? ⟨bN, 5, none⟩ = some (.slice A5 y.f5.length c5) := nn5
      have dd20 : wc.drew.cell? ⟨bN, 6, none⟩ = some (.int .i64 y.f6) := nn6
      have dd21 : wc.drew.cell? ⟨bN, 7, none⟩ = some (.int .i64 y.f7) := nn7
      refine start_ (n := 8) (S := fun w' => w'.cell? ⟨bO, 0, none⟩ = some (.slice (some ⟨g, 0, none⟩) m co) ∧ w'.cell? ⟨w.heap.size, 0, none⟩ = some (.slice A0 P.length c0) ∧ w'.cell? ⟨w.heap.size, 1, none⟩ = some (.slice A1 L.length c1) ∧ w'.cell? ⟨w.heap.size, 2, none⟩ = some (.int .i64 a2) ∧ w'.cell? ⟨w.heap.size, 3, none⟩ = some (.int .i64 a3) ∧ w'.cell? ⟨w.heap.size, 4, none⟩ = some (.int .i64 a4) ∧ w'.cell? ⟨w.heap.size, 5, none⟩ = some (.int .i64 a5) ∧ w'.cell? ⟨w.heap.size, 6, none⟩ = some (.int .i64 a6) ∧ w'.cell? ⟨w.heap.size, 7, none⟩ = some (.int .i64 a7) ∧ w'.cell? ⟨w.heap.size, 8, none⟩ = some (.int .i64 a8) ∧ w'.cell? ⟨w.heap.size, 9, none⟩ = some (.int .i64 a9) ∧ w'.cell? ⟨w.heap.size, 10, none⟩ = some (.int .i64 a10) ∧ w'.cell? ⟨w.heap.size, 11, none⟩ = some (.int .i64 a11) ∧ w'.cell? ⟨w.heap.size, 12, none⟩ = some (.int .i64 a12) ∧ w'.cell? ⟨bN, 0, none⟩ = some (.int .i64 y.f0) ∧ w'.cell? ⟨bN, 1, none⟩ = some (.int .i64 y.f1) ∧ w'.cell? ⟨bN, 2, none⟩ = some (.int .i64 y.f2) ∧ w'.cell? ⟨bN, 3, none⟩ = some (.int .i64 y.f3) ∧ w'.cell? ⟨bN, 4, none⟩ = some (.int .i64 y.f4) ∧ w'.cell? ⟨bN, 5, none⟩ = some (.slice A5 y.f5.length c5) ∧ w'.cell? ⟨bN, 6, none⟩ = some (.int .i64 y.f6) ∧ w'.cell? ⟨bN, 7, none⟩ = some (.int .i64 y.f7)) (ds := [7]) #[false, false, false, false, false, false, false, false] (by kernel_rfl) rfl rfl ⟨dd0, dd1, dd2, dd3, dd4, dd5, dd6, dd7, dd8, dd9, dd10, dd11, dd12, dd13, dd14, dd15, dd16, dd17, dd18, dd19, dd20, dd21⟩ (fun hHeld => ?_)
      refine pu 0 69 ?_
      refine pu 2 71 ?_
      refine tk22 1 70 ?_
      refine tk22 3 72 ?_
      refine tk22 4 73 ?_
      refine MWo.on 5 74 (fun K hK => ?_)
      refine goes_ Tryz.func40 (by kernel_rfl) rfl #[.agg #[.slice A0 P.length c0, .slice A1 L.length c1, .int .i64 a2, .int .i64 a3, .int .i64 a4, .int .i64 a5, .int .i64 a6, .int .i64 a7, .int .i64 a8, .int .i64 a9, .int .i64 a10, .int .i64 a11, .int .i64 a12], .agg #[.int .i64 y.f0, .int .i64 y.f1, .int .i64 y.f2, .int .i64 y.f3, .int .i64 y.f4, .slice A5 y.f5.length c5, .int .i64 y.f6, .int .i64 y.f7]] (by rfl) rfl rfl lm ?_
      with_reducible refine (dl19_held.calls KR A0 c0 P A1 c1 L a2 a3 a4 a5 a6 a7 a8 a9 a10 a11 a12 y.f0 y.f1 y.f2 y.f3 y.f4 A5 c5 y.f5 y.f6 y.f7 z.f0 z.f1 z.f2 z.f3 z.f4 z.f5 z.f6 z.f7 _ (HN.out.below HJ.out.b.drew).p (HN.out.below HJ.out.b.drew).cp (HN.out.below HJ.out.b.drew).q (HN.out.below HJ.out.b.drew).cq (Kd.C_below HY.out.h5 HJ.out.b.drew) HY.out.c5 HZ.out).mono ?_
      rintro e w6 ⟨v5, rfl, ho5, hb⟩
      obtain ⟨E5, k5, rfl⟩ := Kd.R_slice ho5
      have HR5 := am ho5
      have HBW := am hb
      have q0 := (hb.cell (c_lt dd0)).trans dd0
      have q1 := (hb.cell (c_lt dd1)).trans dd1
      have q2 := (hb.cell (c_lt dd2)).trans dd2
      have q3 := (hb.cell (c_lt dd3)).trans dd3
      have q4 := (hb.cell (c_lt dd4)).trans dd4
      have q5 := (hb.cell (c_lt dd5)).trans dd5
      have q6 := (hb.cell (c_lt dd6)).trans dd6
      have q7 := (hb.cell (c_lt dd7)).trans dd7
      have q8 := (hb.cell (c_lt dd8)).trans dd8
      have q9 := (hb.cell (c_lt dd9)).trans dd9
      have q10 := (hb.cell (c_lt dd10)).trans dd10
      have q11 := (hb.cell (c_lt dd11)).trans dd11
      have q12 := (hb.cell (c_lt dd12)).trans dd12
      have q13 := (hb.cell (c_lt dd13)).trans dd13
      have q14 := (hb.cell (c_lt dd14)).trans dd14
      have q15 := (hb.cell (c_lt dd15)).trans dd15
      have q16 := (hb.cell (c_lt dd16)).trans dd16
      have q17 := (hb.cell (c_lt dd17)).trans dd17
      have q18 := (hb.cell (c_lt dd18)).trans dd18
      have q19 := (hb.cell (c_lt dd19)).trans dd19
      have q20 := (hb.cell (c_lt dd20)).trans dd20
      have q21 := (hb.cell (c_lt dd21)).trans dd21
      have HJ6 := am (HJ.out.drew.step hb)
      obtain ⟨ce, hcl, hM, hcc, hfr⟩ := Kd.N_elem HJ6.out.n z55 (k : Int) (by omega) (by omega)
      obtain ⟨u5, d5, rfl, _, _⟩ := k55_openF hM
      simp only [Int.toNat_natCast] at hcc hfr
      have hx0 : w6.cell? ⟨g, k * 8, none⟩ = _ := hcc 0 _ rfl
      have hx1 : w6.cell? ⟨g, k * 8 + 1, none⟩ = _ := hcc 1 _ rfl
      have hx2 : w6.cell? ⟨g, k * 8 + 2, none⟩ = _ := hcc 2 _ rfl
      have hx3 : w6.cell? ⟨g, k * 8 + 3, none⟩ = _ := hcc 3 _ rfl
      have hx4 : w6.cell? ⟨g, k * 8 + 4, none⟩ = _ := hcc 4 _ rfl
      have hx5 : w6.cell? ⟨g, k * 8 + 5, none⟩ = _ := hcc 5 _ rfl
      have hx6 : w6.cell? ⟨g, k * 8 + 6, none⟩ = _ := hcc 6 _ rfl
      have hx7 : w6.cell? ⟨g, k * 8 + 7, none⟩ = _ := hcc 7 _ rfl
      have hf0 : w6.frozen? ⟨g, k * 8, none⟩ = _ := hfr 0
      have hf1 : w6.frozen? ⟨g, k * 8 + 1, none⟩ = _ := hfr 1
      have hf2 : w6.frozen? ⟨g, k * 8 + 2, none⟩ = _ := hfr 2
      have hf3 : w6.frozen? ⟨g, k * 8 + 3, none⟩ = _ := hfr 3
      have hf4 : w6.frozen? ⟨g, k * 8 + 4, none⟩ = _ := hfr 4
      have hf5 : w6.frozen? ⟨g, k * 8 + 5, none⟩ = _ := hfr 5
      have hf6 : w6.frozen? ⟨g, k * 8 + 6, none⟩ = _ := hfr 6
      have hf7 : w6.frozen? ⟨g, k * 8 + 7, none⟩ = _ := hfr 7
      clear hcl hM hcc hfr ho5 hb
      refine ⟨_, rfl, ?_⟩
      clear hHeld
      refine hK.out _ _ ⟨q0, q1, q2, q3, q4, q5, q6, q7, q8, q9, q10, q11, q12, q13, q14, q15, q16, q17, q18, q19, q20, q21⟩ (fun hHeld => ?_)
      clear hK K
      refine norm_ (a' := ?_) ?_ ?_
      rotate_left
      ·show Act.put _ (some 74) _ = _
       simp only [Act.put, sAa, sBb, sCc, i64_w, i32_w]
       rfl
      refine pu 6 75 ?_
      refine lan 7 (fun K hK => ?_)
      refine skip_ (w1 := ?_) (by rfl) rfl ?_ ?_
      rotate_left
      ·go_simp
       rfl
      refine hK.out _ _ ?_
      clear hK K
      refine done_ (by kernel_rfl) ?_
      clear hHeld
      go_wp2_with fail
      go_roundg k1
      case measure => have := HK.out; omega
      case rel => exact ⟨k + 1, ns.set k z, by rw [w1i], ⟨by have := HK.out; omega⟩, ⟨md_store HJ.out.drew (blk_lt HY.out.blk) HBW.out hk z HR5.out⟩, ⟨by rw [List.length_set]; exact HS.out.1, fun j hj hlt => by
       rw [List.length_set] at hj
       by_cases e : j = k
       ·subst e; rw [List.getElem_set_self]; exact HPZ.out
       ·rw [List.getElem_set_ne (Ne.symm e)]; exact HS.out.2 j hj (by omega)⟩⟩
  ·have d1 : decide (k < m) = false := dF hk
   have HKm : Aside0 (k = m) := ⟨by have := HK.out; omega⟩
   have ff2 := blk_frozen HI.out.o 2
   have ff1 := blk_frozen HI.out.o 1
   clear hk
   go_upto_if 89 with fail
   have HI2 := am ((HI.out.putO 2 (.int .i64 (st.tmod 1073741824)) (CO' := #[.slice Ao m co, .bool false, .int .i64 (st.tmod 1073741824), .slice A9 ([] : List Int).length c9]) rfl).putO 1 (.bool on) (CO' := #[.slice Ao m co, .bool on, .int .i64 (st.tmod 1073741824), .slice A9 ([] : List Int).length c9]) rfl)
   clear HI o0 o1 o2 o3 x0 x1 x2 x3 ff1 ff2 d1
   generalize (wr.setCell ⟨bO, 2, none⟩ (.int .i64 (st.tmod 1073741824))).setCell ⟨bO, 1, none⟩ (.bool on) = w4 at *
   go_cut [] (fun wx => ∃ (sx : Int) (Ax : Option Addr) (cx : Nat) (lx : List Int), Aside0 (MdI w wx #[.slice A0 P.length c0, .slice A1 L.length c1, .int .i64 a2, .int .i64 a3, .int .i64 a4, .int .i64 a5, .int .i64 a6, .int .i64 a7, .int .i64 a8, .int .i64 a9, .int .i64 a10, .int .i64 a11, .int .i64 a12] #[.slice A xs.length c, .bool on, .int .i64 st, .slice A3 ag.length c3] #[.slice Ao m co, .bool on, .int .i64 sx, .slice Ax lx.length cx] w.heap.size bX bR bO (fun _ => True) (.slice Ao m co) ns) ∧ Aside0 (Kd.F (Kd.int .i64) wx (fun q => w.heap.size ≤ q ∧ q ≠ bR) Ax lx.length lx ∧ lx.length ≤ cx) ∧ Aside0 (-1073741824 < sx ∧ sx < 1073741824) ∧ Aside0 ((on = true → Pl lx) ∧ (on = false → lx = [])))
   case first =>
    cases on with
    | false =>
     go_wp2_with fail
     go_meet
     exact ⟨st.tmod 1073741824, A9, c9, [], HI2, ⟨md_nil A9, Nat.zero_le _⟩, ⟨tm30 st⟩, ⟨fun h => absurd h (by decide), fun _ => rfl⟩⟩
    | true =>
     have HW1 := HF.out.whole ag HO.out.a
     obtain ⟨l1, hl1, hp1⟩ := HW1
     have HL1 := am hl1
     have HP1 := am hp1
     clear hl1 hp1
     obtain ⟨n0, n1, n2, n3, n4, n5, n6, n7, n8, n9, n10, n11, n12⟩ := cellsK13 HI2.out.c
     obtain ⟨x0, x1, x2, x3⟩ := cellsK4 HI2.out.x
     go_wp2_with fail
     refine (dl19_whole.calls KR A0 c0 P A1 c1 L a2 a3 a4 a5 a6 a7 a8 a9 a10 a11 a12 A3 c3 ag l1 w4 (HN.out.below HI2.out.b).p (HN.out.below HI2.out.b).cp (HN.out.below HI2.out.b).q (HN.out.below HI2.out.b).cq (HX.out.below HI2.out.b).r3 (HX.out.below HI2.out.b).c3 HL1.out).mono ?_
     rintro e w5 ⟨v1, rfl, ho, hb⟩
     obtain ⟨Ax, cx, rfl⟩ := Kd.R_slice ho
     have HI3 := am (HI2.out.step hb)
     have hlO := blk_lt HI2.out.o
     have hlR := blk_lt HI2.out.r
     have hlW := HI2.out.b.size
     have HR1 := am (Kd.R_mono (ok' := fun q => q ≠ bO ∧ w.heap.size ≤ q ∧ q ≠ bR) (Kd.R_bound ho) (fun q hq => ⟨by have := hq.2.1; omega, by have := hq.2.1; omega, by have := hq.2.1; omega⟩))
     clear hlO hlR hlW
     clear ho hb n0 n1 n2 n3 n4 n5 n6 n7 n8 n9 n10 n11 n12 x0 x1 x2 x3 HI2
     have ff3 := blk_frozen HI3.out.o 3
     obtain ⟨o0, o1, o2, o3⟩ := cellsK4 HI3.out.o
     go_upto_region 16 with fail
     have HI4 := am (HI3.out.putO 3 (.slice Ax l1.length cx) (CO' := #[.slice Ao m co, .bool true, .int .i64 (st.tmod 1073741824), .slice Ax l1.length cx]) rfl)
     have HR4 := am (Kd.R_far HR1.out (p := ⟨bO, 3, none⟩) (fun _ h => h.1) (.slice Ax l1.length cx))
     clear HI3 HR1 o0 o1 o2 o3 ff3
     generalize w5.setCell ⟨bO, 3, none⟩ (.slice Ax l1.length cx) = w6 at *
     obtain ⟨x0, x1, x2, x3⟩ := cellsK4 HI4.out.x
     obtain ⟨o0, o1, o2, o3⟩ := cellsK4 HI4.out.o
     go_cut [103] (fun s39 wx => s39 = .bool (alike && decide (0 < xs.length)) ∧ wx = w6)
     case first =>
      cases alike with
      | false =>
       go_wp2_with fail
       go_meet
       exact ⟨rfl, rfl⟩
      | true =>
       by_cases h0 : 0 < xs.length
       ·have d3 : decide (0 < xs.length) = true := dT h0
        go_wp2_with fail
        go_meet
        exact ⟨by rw [d3]; rfl, rfl⟩
       ·have d3 : decide (0 < xs.length) = false := dF h0
        go_wp2_with fail
        go_meet
        exact ⟨by rw [d3]; rfl, rfl⟩
     case rest =>
      obtain ⟨rfl, rfl⟩ := hcut
      go_upto_if 103 with fail
      obtain ⟨qa, hqa⟩ : ∃ qa, (alike && decide (0 < xs.length)) = qa := ⟨_, rfl⟩
      have HQ : Aside0 (qa = true → 0 < xs.length) := ⟨fun h => by rw [h] at hqa; simp at hqa; exact hqa.2⟩
      rw [hqa]
      clear hqa
      cases qa with
      | false =>
       go_wp2_with fail
       go_meet
       exact ⟨st.tmod 1073741824, Ax, cx, l1, HI4, ⟨⟨Kd.F_mono (Kd.R_F HR4.out) (fun _ h => h.2), (Kd.R_reads' HR4.out).2.1⟩⟩, ⟨tm30 st⟩, ⟨fun _ => HP1.out, fun h => absurd h (by decide)⟩⟩
      | true =>
       have h0 := HQ.out rfl
       obtain ⟨ad, B5, d5, e, _, _, _, y3, _, y5, _, _, hc5, hC5⟩ := at_T55 HX.out.r0 0 (by omega) (by show (0 : Int) < (xs.length : Int); omega)
       cases e
       have hy : rd_T55 xs 0 ∈ xs := by
        have e : rd_T55 xs 0 = xs[0] := by simp [rd_T55, h0]
        rw [e]; exact List.getElem_mem h0
       have HLy := am (HO.out.x _ hy)
       have v3 : w.cell? ⟨ad.block, ad.off + 3, none⟩ = some (.int .i64 (rd_T55 xs 0).f3) := by simpa [Addr.add] using y3
       have v5 : w.cell? ⟨ad.block, ad.off + 5, none⟩ = some (.slice B5 (rd_T55 xs 0).f5.length d5) := by simpa [Addr.add] using y5
       dsimp only at v3 v5 hc5 hC5
       generalize rd_T55 xs 0 = z at *
       have hla : ad.block < w.heap.size := c_lt (a := ⟨ad.block, ad.off + 3, none⟩) v3
       have HZ5 := am (And.intro hC5 hc5)
       have p1 := eq_true (show (0 : Int) < (xs.length : Int) by omega)
       have e3 := (HI4.out.b.cell (c_lt v3)).trans v3
       have V5 := am v5
       have HNE := am (show ad.block ≠ bO by have := HI4.out.d.1; omega)
       clear y3 y5 hc5 hC5 hy v3 v5 hla
       have ff2 := blk_frozen HI4.out.o 2
       go_upto_region 18 with fail
       have HI5 := am (HI4.out.putO 2 (.int .i64 (z.f3.tmod 1073741824)) (CO' := #[.slice Ao m co, .bool true, .int .i64 (z.f3.tmod 1073741824), .slice Ax l1.length cx]) rfl)
       clear e3 ff2 x0 x1 x2 x3 o0 o1 o2 o3 HI4 HR4
       generalize wc.setCell ⟨bO, 2, none⟩ (.int .i64 (z.f3.tmod 1073741824)) = w7 at *
       obtain ⟨l2, hl2, hp2⟩ := HF.out.whole z.f5 HLy.out
       have HL2 := am hl2
       have HP2 := am hp2
       clear hl2 hp2
       obtain ⟨n0, n1, n2, n3, n4, n5, n6, n7, n8, n9, n10, n11, n12⟩ := cellsK13 HI5.out.c
       obtain ⟨x0, x1, x2, x3⟩ := cellsK4 HI5.out.x
       have e5 := (HI5.out.b.cell (c_lt V5.out)).trans V5.out
       have dd0 : w7.drew.cell? ⟨w.heap.size, 0, none⟩ = some (.slice A0 P.length c0) := n0
       have dd1 : w7.drew.cell? ⟨w.heap.size, 1, none⟩ = some (.slice A1 L.length c1) := n1
       have dd2 : w7.drew.cell? ⟨w.heap.size, 2, none⟩ = some (.int .i64 a2) := n2
       have dd3 : w7.drew.cell? ⟨w.heap.size, 3, none⟩ = some (.int .i64 a3) := n3
       have dd4 : w7.drew.cell? ⟨w.heap.size, 4, none⟩ = some (.int .i64 a4) := n4
       have dd5 : w7.drew.cell? ⟨w.heap.size, 5, none⟩ = some (.int .i64 a5) := n5
       have dd6 : w7.drew.cell? ⟨w.heap.size, 6, none⟩ = some (.int .i64 a6) := n6
       have dd7 : w7.drew.cell? ⟨w.heap.size, 7, none⟩ = some (.int .i64 a7) := n7
       have dd8 : w7.drew.cell? ⟨w.heap.size, 8, none⟩ = some (.int .i64 a8) := n8
       have dd9 : w7.drew.cell? ⟨w.heap.size, 9, none⟩ = some (.int .i64 a9) := n9
       have dd10 : w7.drew.cell? ⟨w.heap.size, 10, none⟩ = some (.int .i64 a10) := n10
       have dd11 : w7.drew.cell? ⟨w.heap.size, 11, none⟩ = some (.int .i64 a11) := n11
       have dd12 : w7.drew.cell? ⟨w.heap.size, 12, none⟩ = some (.int .i64 a12) := n12
       have dd13 : w7.drew.cell? ⟨bX, 0, none⟩ = some (.slice (some ad) xs.length c) := x0
       have dd14 : w7.drew.cell? ⟨ad.block, ad.off + 5, none⟩ = some (.slice B5 z.f5.length d5) := e5
       refine start_ (n := 10) (S := fun w' => w'.cell? ⟨w.heap.size, 0, none⟩ = some (.slice A0 P.length c0) ∧ w'.cell? ⟨w.heap.size, 1, none⟩ = some (.slice A1 L.length c1) ∧ w'.cell? ⟨w.heap.size, 2, none⟩ = some (.int .i64 a2) ∧ w'.cell? ⟨w.heap.size, 3, none⟩ = some (.int .i64 a3) ∧ w'.cell? ⟨w.heap.size, 4, none⟩ = some (.int .i64 a4) ∧ w'.cell? ⟨w.heap.size, 5, none⟩ = some (.int .i64 a5) ∧ w'.cell? ⟨w.heap.size, 6, none⟩ = some (.int .i64 a6) ∧ w'.cell? ⟨w.heap.size, 7, none⟩ = some (.int .i64 a7) ∧ w'.cell? ⟨w.heap.size, 8, none⟩ = some (.int .i64 a8) ∧ w'.cell? ⟨w.heap.size, 9, none⟩ = some (.int .i64 a9) ∧ w'.cell? ⟨w.heap.size, 10, none⟩ = some (.int .i64 a10) ∧ w'.cell? ⟨w.heap.size, 11, none⟩ = some (.int .i64 a11) ∧ w'.cell? ⟨w.heap.size, 12, none⟩ = some (.int .i64 a12) ∧ w'.cell? ⟨bX, 0, none⟩ = some (.slice (some ad) xs.length c) ∧ w'.cell? ⟨ad.block, ad.off + 5, none⟩ = some (.slice B5 z.f5.length d5)) (ds := [9]) #[false, false, false, false, false, false, false, false, false, false] (by kernel_rfl) rfl rfl ⟨dd0, dd1, dd2, dd3, dd4, dd5, dd6, dd7, dd8, dd9, dd10, dd11, dd12, dd13, dd14⟩ (fun hHeld => ?_)
       refine pu 1 113 ?_
       refine tk15 0 112 ?_
       refine tk15 2 114 ?_
       refine pu 3 115 ?_
       refine pu 4 116 ?_
       refine tk15 5 117 ?_
       refine MWo.on 6 118 (fun K hK => ?_)
       refine goes_ Tryz.func41 (by kernel_rfl) rfl #[.agg #[.slice A0 P.length c0, .slice A1 L.length c1, .int .i64 a2, .int .i64 a3, .int .i64 a4, .int .i64 a5, .int .i64 a6, .int .i64 a7, .int .i64 a8, .int .i64 a9, .int .i64 a10, .int .i64 a11, .int .i64 a12], .slice B5 z.f5.length d5] (by rfl) rfl rfl lm ?_
       with_reducible refine (dl19_whole.calls KR A0 c0 P A1 c1 L a2 a3 a4 a5 a6 a7 a8 a9 a10 a11 a12 B5 d5 z.f5 l2 _ (HN.out.below HI5.out.b.drew).p (HN.out.below HI5.out.b.drew).cp (HN.out.below HI5.out.b.drew).q (HN.out.below HI5.out.b.drew).cq (Kd.C_below HZ5.out.1 HI5.out.b.drew) HZ5.out.2 HL2.out).mono ?_
       rintro e w8 ⟨v8, rfl, ho8, hb⟩
       obtain ⟨E8, k8, rfl⟩ := Kd.R_slice ho8
       have HI8 := am (HI5.out.drew.step hb)
       have hlO := blk_lt HI5.out.drew.o
       have hlR := blk_lt HI5.out.drew.r
       have hlW := HI5.out.drew.b.size
       have HR8 := am (Kd.R_mono (ok' := fun q => q ≠ bO ∧ w.heap.size ≤ q ∧ q ≠ bR) (Kd.R_bound ho8) (fun q hq => ⟨by have := hq.2.1; omega, by have := hq.2.1; omega, by have := hq.2.1; omega⟩))
       clear hlO hlR hlW
       have q0 := (hb.cell (c_lt dd0)).trans dd0
       have q1 := (hb.cell (c_lt dd1)).trans dd1
       have q2 := (hb.cell (c_lt dd2)).trans dd2
       have q3 := (hb.cell (c_lt dd3)).trans dd3
       have q4 := (hb.cell (c_lt dd4)).trans dd4
       have q5 := (hb.cell (c_lt dd5)).trans dd5
       have q6 := (hb.cell (c_lt dd6)).trans dd6
       have q7 := (hb.cell (c_lt dd7)).trans dd7
       have q8 := (hb.cell (c_lt dd8)).trans dd8
       have q9 := (hb.cell (c_lt dd9)).trans dd9
       have q10 := (hb.cell (c_lt dd10)).trans dd10
       have q11 := (hb.cell (c_lt dd11)).trans dd11
       have q12 := (hb.cell (c_lt dd12)).trans dd12
       have q13 := (hb.cell (c_lt dd13)).trans dd13
       have q14 := (hb.cell (c_lt dd14)).trans dd14
       have oo3 : w8.cell? ⟨bO, 3, none⟩ = some (.slice Ax l1.length cx) := (blk_cell HI8.out.o 3).trans rfl
       have of3 := blk_frozen HI8.out.o 3
       clear hb ho8
       refine ⟨_, rfl, ?_⟩
       clear hHeld
       refine hK.out _ _ ⟨q0, q1, q2, q3, q4, q5, q6, q7, q8, q9, q10, q11, q12, q13, q14⟩ (fun hHeld => ?_)
       clear hK K
       refine norm_ (a' := ?_) ?_ ?_
       rotate_left
       ·show Act.put _ (some 118) _ = _
        simp only [Act.put, sAa, sBb, sCc, i64_w, i32_w]
        rfl
       refine pu 7 119 ?_
       refine pu 8 120 ?_
       refine lan 9 (fun K hK => ?_)
       refine skip_ (w1 := ?_) (by rfl) rfl ?_ ?_
       rotate_left
       ·go_simp
        rfl
       refine hK.out _ _ ?_
       clear hK K
       refine done_ (by kernel_rfl) ?_
       clear hHeld
       go_wp2_with fail
       go_meet
       exact ⟨z.f3.tmod 1073741824, E8, k8, l2, ⟨HI8.out.putO 3 (.slice E8 l2.length k8) rfl⟩, ⟨⟨Kd.F_mono (Kd.R_F (Kd.R_far HR8.out (p := ⟨bO, 3, none⟩) (fun _ h => h.1) _)) (fun _ h => h.2), (Kd.R_reads' HR8.out).2.1⟩⟩, ⟨tm30 z.f3⟩, ⟨fun _ => HP2.out, fun h => absurd h (by decide)⟩⟩
   case rest =>
    obtain ⟨sx, Ax, cx, lx, HI4, HLx, HSx, HPx⟩ := hcut
    clear HI2
    obtain ⟨o0, o1, o2, o3⟩ := cellsK4 HI4.out.o
    obtain ⟨r0, r1, r2, r3⟩ := cellsK4 HI4.out.r
    obtain ⟨rf0, rf1, rf2, rf3⟩ := frozK4 HI4.out.r
    go_wp2_with fail
    have hmm := HS.out.1
    have HW : Aside0 (Kd.N k55 55 ((((wc.setCell ⟨bR, 0, none⟩ (.slice Ao m co)).setCell ⟨bR, 1, none⟩ (.bool on)).setCell ⟨bR, 2, none⟩ (.int .i64 sx)).setCell ⟨bR, 3, none⟩ (.slice Ax lx.length cx)) w.heap.size (fun q => w.heap.size ≤ q ∧ q ≠ w.heap.size ∧ q ≠ bX ∧ q ≠ bR ∧ q ≠ bO ∧ True) (.slice Ao m co) ns) := ⟨Kd.N_far (Kd.N_far (Kd.N_far (Kd.N_far HI4.out.n (fun _ h => h.2.2.2.1) _) (fun _ h => h.2.2.2.1) _) (fun _ h => h.2.2.2.1) _) (fun _ h => h.2.2.2.1) _⟩
    have HV := am (Kd.F_far (Kd.F_far (Kd.F_far (Kd.F_far HLx.out.1 (p := ⟨bR, 0, none⟩) (fun _ h => h.2) (.slice Ao m co)) (p := ⟨bR, 1, none⟩) (fun _ h => h.2) (.bool on)) (p := ⟨bR, 2, none⟩) (fun _ h => h.2) (.int .i64 sx)) (p := ⟨bR, 3, none⟩) (fun _ h => h.2) (.slice Ax lx.length cx))
    refine bodyPost_ret (results_cell_row rfl _ _ bR 37 #[.slice Ao m co, .bool on, .int .i64 sx, .slice Ax lx.length cx] (0, 0) _ rfl (by have h := (blk_set (blk_set (blk_set (blk_set HI4.out.r 0 (.slice Ao m co)) 1 (.bool on)) 2 (.int .i64 sx)) 3 (.slice Ax lx.length cx)); simpa using h) Tryz.underlying37 rfl (by kernel_rfl)) rfl ?_
    have hmj : ∀ j : Nat, j < ns.length → j < k := fun j h => by rw [HKm.out]; omega
    subst hmm
    have hr := Kd.N_reads' HW.out
    exact ⟨⟨ns, ⟨on, sx, lx⟩⟩, Ao, co, Ax, cx, rfl, ⟨fun W' hW => (Kd.N_reads' (Kd.N_step HW.out (fun q hq hl => hW q hq.1 hl))).2.2, hr.2.1, Kd.F_mono HV.out (fun _ h => h.1), HLx.out.2⟩, ⟨rfl, fun z hz => by
     obtain ⟨j, hj, e⟩ := List.getElem_of_mem hz
     rw [← e]; exact HS.out.2 j hj (hmj j hj), HSx.out, HPx.out.1, HPx.out.2⟩, below_set (below_set (below_set (below_set HI4.out.b HRB.out) HRB.out) HRB.out) HRB.out⟩
end Go.Proofs.YtbefbhghmommhaaGreatDoor.MWo
