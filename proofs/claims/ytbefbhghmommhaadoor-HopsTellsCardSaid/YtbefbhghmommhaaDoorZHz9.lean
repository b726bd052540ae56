/- Texts of this claim, laid together by a program (wip/g/merge5.py): Ha. -/
import Derived.Test.YtbefbhghmommhaaDoorZHz8
import Derived.Test.YtbefbhghmommhaaDoorZHz4
set_option linter.unusedVariables false
set_option linter.unusedSimpArgs false
namespace Go.Proofs.YtbefbhghmommhaaDoor.MWo
open Go.RowKit Go.Proofs.YtbefbhghmommhaaDoorW.PrintWords Go.Proofs.YtbefbhghmommhaaDoorW.PrintLast Go.Proofs.YtbefbhghmommhaaDoorW.PrintMore
theorem entersT {f : Nat} {fn : Func} {c : Code} (hf : Tryd.prog.funcs[f]? = some fn) (hn : (fn.name == "runtime.NumGoroutine") = false) (hb : fn.body = some c) (args : Array Value) (w : World) : (callFunc f args).run Tryd.prog w = .ok (.enter f args) w := by
 have hne : ¬ (fn.name = "runtime.NumGoroutine") := fun e => by rw [e] at hn; exact absurd hn (by decide)
 simp [callFunc, hf, hne, hb, mark]
abbrev val39 (x : S39) : Value := .agg #[.int .i64 x.f0, .int .i64 x.f1, .int .i64 x.f2.f0, .int .i64 x.f2.f1, .int .i64 x.f3.f0, .int .i64 x.f3.f1]
def PredB (g : Nat) (lb : Array Value) (p : S39 → Bool) (w : World) : Prop :=
 ∀ (W : World) (x : S39), Below w.heap.size w W → Calls Tryd.prog g (#[val39 x] ++ lb) W fun e w' => e = .returned (.bool (p x)) ∧ Below W.heap.size W w'
def findI (p : S39 → Bool) (l : List S39) : Int := match l.findIdx? p with | some i => (i : Int) | none => -1
theorem findI_hit {p : S39 → Bool} {l : List S39} {i : Nat} (hi : i < l.length) (hp : p (rd_T39 l i) = true) (hb : ∀ j : Nat, j < i → p (rd_T39 l j) = false) : findI p l = i := by
 have : l.findIdx? p = some i := by
  rw [List.findIdx?_eq_some_iff_getElem]
  refine ⟨hi, by simpa [rd_T39, List.getD_eq_getElem?_getD, hi] using hp, fun j hj => ?_⟩
  have := hb j hj
  have hjl : j < l.length := by omega
  simpa [rd_T39, List.getD_eq_getElem?_getD, hjl] using this
 unfold findI
 rw [this]
theorem findI_miss {p : S39 → Bool} {l : List S39} (hb : ∀ j : Nat, j < l.length → p (rd_T39 l j) = false) : findI p l = -1 := by
 have : l.findIdx? p = none := by
  rw [List.findIdx?_eq_none_iff]
  intro x hx
  obtain ⟨j, hj, rfl⟩ := List.mem_iff_getElem.1 hx
  have := hb j hj
  simpa [rd_T39, List.getD_eq_getElem?_getD, hj] using this
 unfold findI
 rw [this]
theorem findI_any (p : S39 → Bool) (l : List S39) : decide (0 ≤ findI p l) = l.any p := by
 unfold findI
 cases h : l.findIdx? p with
 | none =>
  rw [List.findIdx?_eq_none_iff] at h
  simp only [show decide ((0 : Int) ≤ -1) = false by decide]
  symm
  rw [List.any_eq_false]
  intro x hx
  simp [h x hx]
 | some i =>
  rw [List.findIdx?_eq_some_iff_getElem] at h
  obtain ⟨hi, hp, _⟩ := h
  simp only [show decide ((0 : Int) ≤ (i : Int)) = true from dT (by omega)]
  symm
  rw [List.any_eq_true]
  exact ⟨_, List.getElem_mem hi, hp⟩
set_option maxHeartbeats 1000000 in
set_option maxRecDepth 4000 in
theorem indexFunc (p : S39 → Bool) (g : Nat) (lb : Array Value) (eg : ∀ args w, (callFunc g args).run Tryd.prog w = .ok (.enter g args) w) (A0 : Option Addr) (c0 : Nat) (l : List S39) (w : World)
  (hr : Kd.C k39 w A0 l.length l) (hl : l.length ≤ 1000000) (hp : PredB g lb p w) :
  Calls Tryd.prog 27 #[.slice A0 l.length c0, .func (.func g) #[] lb] w fun e w' => e = .returned (.int .i64 (findI p l)) ∧ Below w.heap.size w w' := by
 have HR := am hr
 have HP := am hp
 clear hr hp
 go_enter Tryd.func27, Tryd.ntmps27
 go_wp2_with fail
 go_loopg [5, 8] (l.length + 1) (fun kq _ v8 w' => ∃ i : Int, v8 = .int .i64 i ∧ Aside0 (kq + i = l.length + 1 ∧ 0 ≤ i) ∧ Aside0 (Below w.heap.size w w') ∧ Aside0 (∀ j : Nat, (j : Int) < i → p (rd_T39 l j) = false))
 case atStart => exact ⟨0, rfl, ⟨by omega⟩, ⟨Below.refl _ _⟩, ⟨fun j hj => absurd hj (by omega)⟩⟩
 case round =>
  obtain ⟨i, rfl, HK, HB, HN⟩ := hrel
  by_cases hi : i < (l.length : Int)
  ·have h0 := HK.out.2
   obtain ⟨ad, e, x0, x1, x2, x3, x4, x5⟩ := at_T39 (Kd.C_below HR.out HB.out) i h0 hi
   cases e
   have hcall := HP.out wr (rd_T39 l i) HB.out
   have hlt : decide (i < (l.length : Int)) = true := dT hi
   have hpx : Aside0 (p (rd_T39 l i) = p (rd_T39 l i)) := ⟨rfl⟩
   have Hrd : Aside0 (∃ x, rd_T39 l i = x) := ⟨_, rfl⟩
   obtain ⟨x, hx⟩ := Hrd.out
   rw [hx] at x0 x1 x2 x3 x4 x5 hcall
   have HX := am hx
   clear Hrd hpx hx
   have p0 := eq_true h0
   have p1 := eq_true hi
   have hw1 : wrap64 (i + 1) = i + 1 := by unfold wrap64; omega
   cases gk with
   | zero => exact absurd HK.out (by omega)
   | succ k1 =>
   cases hq : p x with
   | true =>
    rw [hq] at hcall
    go_wp2_with fail
    refine hcall.mono ?_
    rintro e w' ⟨rfl, hb'⟩
    have HB' := am hb'
    clear hb'
    go_wp2_with fail
    go_ret
    refine ⟨?_, below_step HB.out HB'.out⟩
    have e1 : i = (i.toNat : Int) := by omega
    rw [findI_hit (i := i.toNat) (by omega) (by rw [← e1, HX.out]; exact hq) (fun j hj => HN.out j (by omega)), ← e1]
    rfl
   | false =>
    rw [hq] at hcall
    go_wp2_with fail
    refine hcall.mono ?_
    rintro e w' ⟨rfl, hb'⟩
    have HB' := am hb'
    clear hb'
    go_wp2_with fail
    go_roundg k1
    case measure => have := HK.out; omega
    case rel =>
     refine ⟨i + 1, rfl, ⟨by have := HK.out; omega⟩, ⟨below_step HB.out HB'.out⟩, ⟨fun j hj => ?_⟩⟩
     by_cases e : (j : Int) = i
     ·rw [e, HX.out]; exact hq
     ·exact HN.out j (by omega)
  ·have hlt : decide (i < (l.length : Int)) = false := dF hi
   go_wp2_with fail
   go_ret
   refine ⟨?_, HB.out⟩
   rw [findI_miss (fun j hj => HN.out j (by omega))]
   rfl
set_option maxHeartbeats 1000000 in
theorem containsFunc (p : S39 → Bool) (g : Nat) (lb : Array Value) (eg : ∀ args w, (callFunc g args).run Tryd.prog w = .ok (.enter g args) w) (A0 : Option Addr) (c0 : Nat) (l : List S39) (w : World)
  (hr : Kd.C k39 w A0 l.length l) (hl : l.length ≤ 1000000) (hp : PredB g lb p w) :
  Calls Tryd.prog 50 #[.slice A0 l.length c0, .func (.func g) #[] lb] w fun e w' => e = .returned (.bool (l.any p)) ∧ Below w.heap.size w w' := by
 have hi := indexFunc p g lb eg A0 c0 l w hr hl hp
 rw [← findI_any]
 generalize findI p l = r at hi ⊢
 clear hr hl hp eg
 go_enter Tryd.func50, Tryd.ntmps50
 go_wp2_with fail
 refine hi.mono ?_
 rintro e w1 ⟨rfl, hb⟩
 have HB := am hb
 clear hb
 go_wp2_with fail
 go_ret
 exact ⟨rfl, HB.out⟩
def takes (part node : Int) (x : S39) : Bool := (x.f0 == part && (x.f2.f0 == node || x.f2.f1 == node)) || (x.f1 == part && (x.f3.f0 == node || x.f3.f1 == node))
set_option maxHeartbeats 4000000 in
set_option maxRecDepth 4000 in
theorem takes_walk (part node : Int) (b1 b2 : Nat) (x : S39) (w : World) (h1 : w.cell? ⟨b1, 0, none⟩ = some (.int .i64 part)) (h2 : w.cell? ⟨b2, 0, none⟩ = some (.int .i64 node)) (l1 : b1 < w.heap.size) (l2 : b2 < w.heap.size) :
  Calls Tryd.prog 57 #[val39 x, .pointer (some ⟨b1, 0, none⟩), .pointer (some ⟨b2, 0, none⟩)] w fun e w' => e = .returned (.bool (takes part node x)) ∧ Below w.heap.size w w' := by
 obtain ⟨a, b, ⟨p0, p1⟩, ⟨q0, q1⟩⟩ := x
 obtain ⟨s0, hs0⟩ : ∃ s, s = (a == part && (p0 == node || p1 == node)) := ⟨_, rfl⟩
 obtain ⟨s1, hs1⟩ : ∃ s, s = (b == part && (q0 == node || q1 == node)) := ⟨_, rfl⟩
 have HT : takes part node ⟨a, b, ⟨p0, p1⟩, ⟨q0, q1⟩⟩ = (s0 || s1) := by rw [hs0, hs1]; rfl
 rw [HT]
 clear HT
 have HS0 := am hs0
 have HS1 := am hs1
 have H1 := am h1
 have H2 := am h2
 have L1 := am l1
 have L2 := am l2
 clear hs0 hs1 h1 h2 l1 l2
 go_enter Tryd.func57, Tryd.ntmps57
 go_wp2_with fail
 have HO : Aside0 ((w.alloc (.cells #[.int .i64 a, .int .i64 b, .int .i64 p0, .int .i64 p1, .int .i64 q0, .int .i64 q1] 39)).heap[w.heap.size]? = some (.cells #[.int .i64 a, .int .i64 b, .int .i64 p0, .int .i64 p1, .int .i64 q0, .int .i64 q1] 39)) := ⟨heap_alloc_new _ _⟩
 have HB := am (below_alloc (Below.refl w.heap.size w) (Obj.cells #[.int .i64 a, .int .i64 b, .int .i64 p0, .int .i64 p1, .int .i64 q0, .int .i64 q1] 39))
 generalize w.alloc (Obj.cells #[.int .i64 a, .int .i64 b, .int .i64 p0, .int .i64 p1, .int .i64 q0, .int .i64 q1] 39) = wa at *
 have HX : Aside0 (w.heap.size = w.heap.size) := ⟨rfl⟩
 obtain ⟨bx, hbx⟩ : ∃ bx, bx = w.heap.size := ⟨_, rfl⟩
 rw [← hbx]
 rw [← hbx] at HO
 have HBX := am hbx
 clear hbx HX
 go_loopg [5, 6, 7, 8] 3 (fun kq _ _ _ v8 w' => ∃ k : Nat, v8 = .int .i64 k ∧ Aside0 (kq + k = 3) ∧ Aside0 (k ≤ 2) ∧ Aside0 (Below w.heap.size w w') ∧ Aside0 (w'.heap[bx]? = some (.cells #[.int .i64 a, .int .i64 b, .int .i64 p0, .int .i64 p1, .int .i64 q0, .int .i64 q1] 39)) ∧ Aside0 ((1 ≤ k → s0 = false) ∧ (2 ≤ k → s1 = false)))
 case atStart => exact ⟨0, rfl, ⟨by omega⟩, ⟨by omega⟩, HB, HO, ⟨fun h => absurd h (by omega), fun h => absurd h (by omega)⟩⟩
 case round =>
  obtain ⟨k, rfl, HK, HK2, HB', HO', HF⟩ := hrel
  have x0 : wr.cell? ⟨bx, 0, none⟩ = some (.int .i64 a) := (blk_cell HO'.out 0).trans rfl
  have x1 : wr.cell? ⟨bx, 1, none⟩ = some (.int .i64 b) := (blk_cell HO'.out 1).trans rfl
  have x2 : wr.cell? ⟨bx, 2, none⟩ = some (.int .i64 p0) := (blk_cell HO'.out 2).trans rfl
  have x3 : wr.cell? ⟨bx, 3, none⟩ = some (.int .i64 p1) := (blk_cell HO'.out 3).trans rfl
  have x4 : wr.cell? ⟨bx, 4, none⟩ = some (.int .i64 q0) := (blk_cell HO'.out 4).trans rfl
  have x5 : wr.cell? ⟨bx, 5, none⟩ = some (.int .i64 q1) := (blk_cell HO'.out 5).trans rfl
  have y1 : wr.cell? ⟨b1, 0, none⟩ = some (.int .i64 part) := (HB'.out.cell (p := ⟨b1, 0, none⟩) L1.out).trans H1.out
  have y2 : wr.cell? ⟨b2, 0, none⟩ = some (.int .i64 node) := (HB'.out.cell (p := ⟨b2, 0, none⟩) L2.out).trans H2.out
  have HLx := am (blk_lt HO'.out)
  have HL1 := am (Nat.lt_of_lt_of_le L1.out HB'.out.size)
  have HL2 := am (Nat.lt_of_lt_of_le L2.out HB'.out.size)
  cases gk with
  | zero => exact absurd HK.out (by have := HK2.out; omega)
  | succ k1 =>
  rcases (show k = 0 ∨ k = 1 ∨ k = 2 from by have := HK2.out; omega) with e | e | e
  ·subst e
   cases ha : (a == part) with
   | false =>
    go_wp2_with fail
    refine (plan_end.calls a b p0 p1 q0 q1 0 a p0 p1 _ rfl).mono ?_
    rintro e w1 ⟨rfl, hb⟩
    have z1 : w1.cell? ⟨b1, 0, none⟩ = some (.int .i64 part) := (hb.cell (p := ⟨b1, 0, none⟩) HL1.out).trans y1
    have z2 : w1.cell? ⟨b2, 0, none⟩ = some (.int .i64 node) := (hb.cell (p := ⟨b2, 0, none⟩) HL2.out).trans y2
    have zO := am ((hb.block bx HLx.out).trans HO'.out)
    have HB1 := am (below_step HB'.out hb)
    have hn1 : w1.heap.size ≠ b1 := by have := HL1.out; have := hb.size; omega
    have hn2 : w1.heap.size ≠ b2 := by have := HL2.out; have := hb.size; omega
    have hm1 : b1 ≠ w1.heap.size := Ne.symm hn1
    have hm2 : b2 ≠ w1.heap.size := Ne.symm hn2
    have LL1 : b1 < w1.heap.size := by have := HL1.out; have := hb.size; omega
    have LL2 : b2 < w1.heap.size := by have := HL2.out; have := hb.size; omega
    have LLx := am (show bx < w1.heap.size by have := HLx.out; have := hb.size; omega)
    clear hb x0 x1 x2 x3 x4 x5 y1 y2
    go_wp2_with fail
    go_roundg k1
    case measure => have := HK.out; omega
    case rel => exact ⟨1, rfl, ⟨by have := HK.out; omega⟩, ⟨by omega⟩, ⟨by repeat (first | exact HB1.out | apply below_alloc | refine Below.setCell ?_ HB1.out.size _)⟩, ⟨((below_alloc (Below.refl w1.heap.size w1) _).block bx LLx.out).trans zO.out⟩, ⟨fun _ => by rw [HS0.out, ha]; rfl, fun h => absurd h (by omega)⟩⟩
   | true =>
    cases hp0 : (p0 == node) with
    | true =>
     go_wp2_with fail
     refine (plan_end.calls a b p0 p1 q0 q1 0 a p0 p1 _ rfl).mono ?_
     rintro e w1 ⟨rfl, hb⟩
     have z1 : w1.cell? ⟨b1, 0, none⟩ = some (.int .i64 part) := (hb.cell (p := ⟨b1, 0, none⟩) HL1.out).trans y1
     have z2 : w1.cell? ⟨b2, 0, none⟩ = some (.int .i64 node) := (hb.cell (p := ⟨b2, 0, none⟩) HL2.out).trans y2
     have zO := am ((hb.block bx HLx.out).trans HO'.out)
     have HB1 := am (below_step HB'.out hb)
     have hn1 : w1.heap.size ≠ b1 := by have := HL1.out; have := hb.size; omega
     have hn2 : w1.heap.size ≠ b2 := by have := HL2.out; have := hb.size; omega
     have hm1 : b1 ≠ w1.heap.size := Ne.symm hn1
     have hm2 : b2 ≠ w1.heap.size := Ne.symm hn2
     have LL1 : b1 < w1.heap.size := by have := HL1.out; have := hb.size; omega
     have LL2 : b2 < w1.heap.size := by have := HL2.out; have := hb.size; omega
     have LLx := am (show bx < w1.heap.size by have := HLx.out; have := hb.size; omega)
     clear hb x0 x1 x2 x3 x4 x5 y1 y2
     go_wp2_with fail
     go_ret
     rw [show s0 = true by rw [HS0.out]; simp only [ha, hp0, Bool.true_or]; rfl]
     exact ⟨rfl, by repeat (first | exact HB1.out | apply below_alloc | refine Below.setCell ?_ HB1.out.size _)⟩
    | false =>
     cases hp1 : (p1 == node) with
     | true =>
      go_wp2_with fail
      refine (plan_end.calls a b p0 p1 q0 q1 0 a p0 p1 _ rfl).mono ?_
      rintro e w1 ⟨rfl, hb⟩
      have z1 : w1.cell? ⟨b1, 0, none⟩ = some (.int .i64 part) := (hb.cell (p := ⟨b1, 0, none⟩) HL1.out).trans y1
      have z2 : w1.cell? ⟨b2, 0, none⟩ = some (.int .i64 node) := (hb.cell (p := ⟨b2, 0, none⟩) HL2.out).trans y2
      have zO := am ((hb.block bx HLx.out).trans HO'.out)
      have HB1 := am (below_step HB'.out hb)
      have hn1 : w1.heap.size ≠ b1 := by have := HL1.out; have := hb.size; omega
      have hn2 : w1.heap.size ≠ b2 := by have := HL2.out; have := hb.size; omega
      have hm1 : b1 ≠ w1.heap.size := Ne.symm hn1
      have hm2 : b2 ≠ w1.heap.size := Ne.symm hn2
      have LL1 : b1 < w1.heap.size := by have := HL1.out; have := hb.size; omega
      have LL2 : b2 < w1.heap.size := by have := HL2.out; have := hb.size; omega
      have LLx := am (show bx < w1.heap.size by have := HLx.out; have := hb.size; omega)
      clear hb x0 x1 x2 x3 x4 x5 y1 y2
      go_wp2_with fail
      go_ret
      rw [show s0 = true by rw [HS0.out]; simp only [ha, hp0, hp1]; rfl]
      exact ⟨rfl, by repeat (first | exact HB1.out | apply below_alloc | refine Below.setCell ?_ HB1.out.size _)⟩
     | false =>
      go_wp2_with fail
      refine (plan_end.calls a b p0 p1 q0 q1 0 a p0 p1 _ rfl).mono ?_
      rintro e w1 ⟨rfl, hb⟩
      have z1 : w1.cell? ⟨b1, 0, none⟩ = some (.int .i64 part) := (hb.cell (p := ⟨b1, 0, none⟩) HL1.out).trans y1
      have z2 : w1.cell? ⟨b2, 0, none⟩ = some (.int .i64 node) := (hb.cell (p := ⟨b2, 0, none⟩) HL2.out).trans y2
      have zO := am ((hb.block bx HLx.out).trans HO'.out)
      have HB1 := am (below_step HB'.out hb)
      have hn1 : w1.heap.size ≠ b1 := by have := HL1.out; have := hb.size; omega
      have hn2 : w1.heap.size ≠ b2 := by have := HL2.out; have := hb.size; omega
      have hm1 : b1 ≠ w1.heap.size := Ne.symm hn1
      have hm2 : b2 ≠ w1.heap.size := Ne.symm hn2
      have LL1 : b1 < w1.heap.size := by have := HL1.out; have := hb.size; omega
      have LL2 : b2 < w1.heap.size := by have := HL2.out; have := hb.size; omega
      have LLx := am (show bx < w1.heap.size by have := HLx.out; have := hb.size; omega)
      clear hb x0 x1 x2 x3 x4 x5 y1 y2
      go_wp2_with fail
      go_roundg k1
      case measure => have := HK.out; omega
      case rel => exact ⟨1, rfl, ⟨by have := HK.out; omega⟩, ⟨by omega⟩, ⟨by repeat (first | exact HB1.out | apply below_alloc | refine Below.setCell ?_ HB1.out.size _)⟩, ⟨((below_alloc (Below.refl w1.heap.size w1) _).block bx LLx.out).trans zO.out⟩, ⟨fun _ => by rw [HS0.out]; simp only [ha, hp0, hp1]; rfl, fun h => absurd h (by omega)⟩⟩
  ·subst e
   cases hb : (b == part) with
   | false =>
    go_wp2_with fail
    refine (plan_end.calls a b p0 p1 q0 q1 1 b q0 q1 _ rfl).mono ?_
    rintro e w1 ⟨rfl, hb⟩
    have z1 : w1.cell? ⟨b1, 0, none⟩ = some (.int .i64 part) := (hb.cell (p := ⟨b1, 0, none⟩) HL1.out).trans y1
    have z2 : w1.cell? ⟨b2, 0, none⟩ = some (.int .i64 node) := (hb.cell (p := ⟨b2, 0, none⟩) HL2.out).trans y2
    have zO := am ((hb.block bx HLx.out).trans HO'.out)
    have HB1 := am (below_step HB'.out hb)
    have hn1 : w1.heap.size ≠ b1 := by have := HL1.out; have := hb.size; omega
    have hn2 : w1.heap.size ≠ b2 := by have := HL2.out; have := hb.size; omega
    have hm1 : b1 ≠ w1.heap.size := Ne.symm hn1
    have hm2 : b2 ≠ w1.heap.size := Ne.symm hn2
    have LL1 : b1 < w1.heap.size := by have := HL1.out; have := hb.size; omega
    have LL2 : b2 < w1.heap.size := by have := HL2.out; have := hb.size; omega
    have LLx := am (show bx < w1.heap.size by have := HLx.out; have := hb.size; omega)
    clear hb x0 x1 x2 x3 x4 x5 y1 y2
    go_wp2_with fail
    go_roundg k1
    case measure => have := HK.out; omega
    case rel => exact ⟨2, rfl, ⟨by have := HK.out; omega⟩, ⟨by omega⟩, ⟨by repeat (first | exact HB1.out | apply below_alloc | refine Below.setCell ?_ HB1.out.size _)⟩, ⟨((below_alloc (Below.refl w1.heap.size w1) _).block bx LLx.out).trans zO.out⟩, ⟨fun _ => HF.out.1 (by omega), fun _ => by rw [HS1.out, hb]; rfl⟩⟩
   | true =>
    cases hq0 : (q0 == node) with
    | true =>
     go_wp2_with fail
     refine (plan_end.calls a b p0 p1 q0 q1 1 b q0 q1 _ rfl).mono ?_
     rintro e w1 ⟨rfl, hb⟩
     have z1 : w1.cell? ⟨b1, 0, none⟩ = some (.int .i64 part) := (hb.cell (p := ⟨b1, 0, none⟩) HL1.out).trans y1
     have z2 : w1.cell? ⟨b2, 0, none⟩ = some (.int .i64 node) := (hb.cell (p := ⟨b2, 0, none⟩) HL2.out).trans y2
     have zO := am ((hb.block bx HLx.out).trans HO'.out)
     have HB1 := am (below_step HB'.out hb)
     have hn1 : w1.heap.size ≠ b1 := by have := HL1.out; have := hb.size; omega
     have hn2 : w1.heap.size ≠ b2 := by have := HL2.out; have := hb.size; omega
     have hm1 : b1 ≠ w1.heap.size := Ne.symm hn1
     have hm2 : b2 ≠ w1.heap.size := Ne.symm hn2
     have LL1 : b1 < w1.heap.size := by have := HL1.out; have := hb.size; omega
     have LL2 : b2 < w1.heap.size := by have := HL2.out; have := hb.size; omega
     have LLx := am (show bx < w1.heap.size by have := HLx.out; have := hb.size; omega)
     clear hb x0 x1 x2 x3 x4 x5 y1 y2
     go_wp2_with fail
     go_ret
     rw [show s1 = true by rw [HS1.out]; simp only [hb, hq0, Bool.true_or]; rfl]
     exact ⟨by cases s0 <;> rfl, by repeat (first | exact HB1.out | apply below_alloc | refine Below.setCell ?_ HB1.out.size _)⟩
    | false =>
     cases hq1 : (q1 == node) with
     | true =>
      go_wp2_with fail
      refine (plan_end.calls a b p0 p1 q0 q1 1 b q0 q1 _ rfl).mono ?_
      rintro e w1 ⟨rfl, hb⟩
      have z1 : w1.cell? ⟨b1, 0, none⟩ = some (.int .i64 part) := (hb.cell (p := ⟨b1, 0, none⟩) HL1.out).trans y1
      have z2 : w1.cell? ⟨b2, 0, none⟩ = some (.int .i64 node) := (hb.cell (p := ⟨b2, 0, none⟩) HL2.out).trans y2
      have zO := am ((hb.block bx HLx.out).trans HO'.out)
      have HB1 := am (below_step HB'.out hb)
      have hn1 : w1.heap.size ≠ b1 := by have := HL1.out; have := hb.size; omega
      have hn2 : w1.heap.size ≠ b2 := by have := HL2.out; have := hb.size; omega
      have hm1 : b1 ≠ w1.heap.size := Ne.symm hn1
      have hm2 : b2 ≠ w1.heap.size := Ne.symm hn2
      have LL1 : b1 < w1.heap.size := by have := HL1.out; have := hb.size; omega
      have LL2 : b2 < w1.heap.size := by have := HL2.out; have := hb.size; omega
      have LLx := am (show bx < w1.heap.size by have := HLx.out; have := hb.size; omega)
      clear hb x0 x1 x2 x3 x4 x5 y1 y2
      go_wp2_with fail
      go_ret
      rw [show s1 = true by rw [HS1.out]; simp only [hb, hq0, hq1]; rfl]
      exact ⟨by cases s0 <;> rfl, by repeat (first | exact HB1.out | apply below_alloc | refine Below.setCell ?_ HB1.out.size _)⟩
     | false =>
      go_wp2_with fail
      refine (plan_end.calls a b p0 p1 q0 q1 1 b q0 q1 _ rfl).mono ?_
      rintro e w1 ⟨rfl, hb⟩
      have z1 : w1.cell? ⟨b1, 0, none⟩ = some (.int .i64 part) := (hb.cell (p := ⟨b1, 0, none⟩) HL1.out).trans y1
      have z2 : w1.cell? ⟨b2, 0, none⟩ = some (.int .i64 node) := (hb.cell (p := ⟨b2, 0, none⟩) HL2.out).trans y2
      have zO := am ((hb.block bx HLx.out).trans HO'.out)
      have HB1 := am (below_step HB'.out hb)
      have hn1 : w1.heap.size ≠ b1 := by have := HL1.out; have := hb.size; omega
      have hn2 : w1.heap.size ≠ b2 := by have := HL2.out; have := hb.size; omega
      have hm1 : b1 ≠ w1.heap.size := Ne.symm hn1
      have hm2 : b2 ≠ w1.heap.size := Ne.symm hn2
      have LL1 : b1 < w1.heap.size := by have := HL1.out; have := hb.size; omega
      have LL2 : b2 < w1.heap.size := by have := HL2.out; have := hb.size; omega
      have LLx := am (show bx < w1.heap.size by have := HLx.out; have := hb.size; omega)
      clear hb x0 x1 x2 x3 x4 x5 y1 y2
      go_wp2_with fail
      go_roundg k1
      case measure => have := HK.out; omega
      case rel => exact ⟨2, rfl, ⟨by have := HK.out; omega⟩, ⟨by omega⟩, ⟨by repeat (first | exact HB1.out | apply below_alloc | refine Below.setCell ?_ HB1.out.size _)⟩, ⟨((below_alloc (Below.refl w1.heap.size w1) _).block bx LLx.out).trans zO.out⟩, ⟨fun _ => HF.out.1 (by omega), fun _ => by rw [HS1.out]; simp only [hb, hq0, hq1]; rfl⟩⟩
  ·subst e
   go_wp2_with fail
   go_ret
   rw [HF.out.1 (by omega), HF.out.2 (by omega)]
   exact ⟨rfl, HB'.out⟩
set_option maxHeartbeats 1000000 in
set_option maxRecDepth 4000 in
theorem taken_walk (A0 : Option Addr) (c0 : Nat) (l : List S39) (part node : Int) (w : World) (hr : Kd.C k39 w A0 l.length l) (hl : l.length ≤ 1000000) :
  Calls Tryd.prog 56 #[.slice A0 l.length c0, .int .i64 part, .int .i64 node] w fun e w' => e = .returned (.bool (l.any (takes part node))) ∧ Below w.heap.size w w' := by
 have hb0 := below_alloc (below_alloc (Below.refl w.heap.size w) (Obj.cells #[.int .i64 part] 3)) (Obj.cells #[.int .i64 node] 3)
 have e1 : ((w.alloc (Obj.cells #[.int .i64 part] 3)).alloc (Obj.cells #[.int .i64 node] 3)).cell? ⟨w.heap.size, 0, none⟩ = some (.int .i64 part) := by simp
 have e2 : ((w.alloc (Obj.cells #[.int .i64 part] 3)).alloc (Obj.cells #[.int .i64 node] 3)).cell? ⟨w.heap.size + 1, 0, none⟩ = some (.int .i64 node) := by simp
 have s2 : ((w.alloc (Obj.cells #[.int .i64 part] 3)).alloc (Obj.cells #[.int .i64 node] 3)).heap.size = w.heap.size + 1 + 1 := by simp
 have hcall := containsFunc (takes part node) 57 #[.pointer (some ⟨w.heap.size, 0, none⟩), .pointer (some ⟨w.heap.size + 1, 0, none⟩)] (entersT Tryd.func57 (by kernel_rfl) rfl) A0 c0 l _ (Kd.C_below hr hb0) hl (fun W x hW => by
  refine takes_walk part node w.heap.size (w.heap.size + 1) x W ((hW.cell (p := ⟨w.heap.size, 0, none⟩) (by rw [s2]; show w.heap.size < _; omega)).trans e1) ((hW.cell (p := ⟨w.heap.size + 1, 0, none⟩) (by rw [s2]; show w.heap.size + 1 < _; omega)).trans e2) ?_ ?_
  ·have := hW.size; omega
  ·have := hW.size; omega)
 generalize l.any (takes part node) = r at hcall ⊢
 have HB0 := am hb0
 clear hr hl e1 e2 s2 hb0
 go_enter Tryd.func56, Tryd.ntmps56
 go_wp2_with fail
 refine hcall.mono ?_
 rintro e w1 ⟨rfl, hb⟩
 have HB := am (below_step HB0.out hb)
 clear hb
 go_wp2_with fail
 go_ret
 exact ⟨rfl, HB.out⟩
end Go.Proofs.YtbefbhghmommhaaDoor.MWo
