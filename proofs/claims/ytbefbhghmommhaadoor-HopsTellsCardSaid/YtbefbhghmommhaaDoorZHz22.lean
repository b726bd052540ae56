/- Texts of this claim, laid together by a program (wip/g/merge5.py): HTl, OpenB, OpenN. -/
import Derived.Test.YtbefbhghmommhaaDoorZHz21
import Derived.Lib.SmallJoins
import Derived.Deep.Slices
import Derived.DataReads
import Derived.ChangeArms
import Derived.Test.YtbefbhghmommhaaDoorZHz4
set_option linter.unusedVariables false
set_option linter.unusedSimpArgs false
namespace Go.Proofs.YtbefbhghmommhaaDoor.MWo
open Go.RowKit Go.Proofs.YtbefbhghmommhaaDoorW.PrintWords Go.Proofs.YtbefbhghmommhaaDoorW.PrintLast Go.Proofs.YtbefbhghmommhaaDoorW.PrintMore
theorem tells_law (A0 : Option Addr) (c0 : Nat) (P : List S43) (A1 : Option Addr) (c1 : Nat) (L : List S39) (a2 a3 a4 a5 a6 a7 a8 a9 a10 a11 a12 a b : Int) (w : World) (hr0 : Kd.C k43 w A0 P.length P) (hc0 : P.length ≤ c0) (hr1 : Kd.C k39 w A1 L.length L) (hc1 : L.length ≤ c1) (hG : Gv w) :
  Calls Tryd.prog 3 #[.agg #[.slice A0 P.length c0, .slice A1 L.length c1, .int .i64 a2, .int .i64 a3, .int .i64 a4, .int .i64 a5, .int .i64 a6, .int .i64 a7, .int .i64 a8, .int .i64 a9, .int .i64 a10, .int .i64 a11, .int .i64 a12], .int .i64 a, .int .i64 b] w fun e w' => e = .returned (.bool true) ∧ Below w.heap.size w w' := by
 obtain ⟨k, hk⟩ := tells P L a2 a3 a4 a5 a6 a7 a8 a9 a10 a11 a12 a b
 exact dl6_HopsTells.calls k A0 c0 P A1 c1 L a2 a3 a4 a5 a6 a7 a8 a9 a10 a11 a12 a b true w hr0 hc0 hr1 hc1 hk hG
end Go.Proofs.YtbefbhghmommhaaDoor.MWo
set_option maxRecDepth 100000
set_option linter.unusedVariables false
namespace Go.Proofs.YtbefbhghmommhaaDoor.Opn
open Go.Joins Go.Deep Go.ChangeShapes Go.WideShapes Go.RowKit Go.Proofs.YtbefbhghmommhaaDoorW.PrintWords Go.Proofs.YtbefbhghmommhaaDoor.MWo
def Opens (P : Program) (t : TypeId) {α : Type} (d : Kd α) (good : α → Prop) : Prop :=
  ∀ {H : Type} (enc : TypeId × Value → H) (W : World) (fuel : Nat) (cs : List Value) (x : DataW H × List MemPlace),
    DataW.trod enc P W 0 (fun _ => true) true fuel t cs = some x → ∃ a, d.K W a cs ∧ good a
theorem listOf {α : Type} {Q : Nat → α → Prop} : ∀ n : Nat, (∀ i, i < n → ∃ y, Q i y) → ∃ l : List α, l.length = n ∧ ∀ i y, l[i]? = some y → Q i y
  | 0, _ => ⟨[], rfl, fun i y h => by simp at h⟩
  | n + 1, h => by
    obtain ⟨l, hl, hq⟩ := listOf n (fun i hi => h i (by omega))
    obtain ⟨y, hy⟩ := h n (by omega)
    refine ⟨l ++ [y], by simp [hl], fun i z hz => ?_⟩
    by_cases hi : i < n
    · rw [List.getElem?_append_left (by omega)] at hz
      exact hq i z hz
    · rw [List.getElem?_append_right (by omega)] at hz
      have hin : i = n := by
        have := (List.getElem?_eq_some_iff.1 hz).1
        simp at this; omega
      subst hin
      simp [hl] at hz
      subst hz
      exact hy
theorem opens_slice {P : Program} {t e : TypeId} {α : Type} {d : Kd α} {good : α → Prop} (ht : P.underlying t = some (.slice e)) (hc : P.cellsOf e = d.sz) (h0 : Opens P e d good) :
    Opens P t (Kd.slice e d) (fun l => (∀ x ∈ l, good x) ∧ l.length ≤ 9223372036854775807) := by
  intro H enc W fuel cs x h
  rcases Deep.open_slice ht h with ⟨rfl, _⟩ | ⟨a, len, cap, m, n, D, Pl, rfl, _, hl, hm, hm', _, hel⟩
  · exact ⟨[], ⟨none, 0, rfl, Nat.le_refl _, rfl, by simp, fun hp => absurd hp (by simp)⟩, by simp, by simp⟩
  · have hlm : len ≤ m := by rw [hm']; simpa using hl
    have hmax : len ≤ 9223372036854775807 := by unfold maxLen at hm; omega
    obtain ⟨l, hlen, hq⟩ := listOf (Q := fun i y => (∃ c : List Value, c.length = d.sz ∧ d.K W y c ∧ ∀ j u, c[j]? = some u → W.cell? (a.add (i * d.sz + j)) = some u) ∧ good y) len (fun i hi => by
      obtain ⟨cs', h1, h2⟩ := hel i (by omega)
      obtain ⟨y, hy, hg⟩ := h0 enc W n cs' _ h2
      obtain ⟨_, h3, h4⟩ := World.cells?_some h1
      refine ⟨y, ⟨cs', by rw [h3, hc], hy, fun j u hu => ?_⟩, hg⟩
      have hj := (List.getElem?_eq_some_iff.1 hu).1
      have := h4 j (by omega)
      rw [hu, hc] at this
      rw [← this, Deep.add_add])
    subst hlen
    exact ⟨l, ⟨some a, cap, rfl, hl, rfl, hmax, fun _ => ⟨a, rfl, fun j p hj => (hq j p hj).1⟩⟩, fun y hy => by
      obtain ⟨i, hi⟩ := List.mem_iff_getElem?.1 hy
      exact (hq i y hi).2, hmax⟩
end Go.Proofs.YtbefbhghmommhaaDoor.Opn
set_option maxRecDepth 100000
set_option linter.unusedVariables false
namespace Go.Proofs.YtbefbhghmommhaaDoor.Opn
open Go.Joins Go.Deep Go.ChangeShapes Go.WideShapes Go.RowKit Go.Proofs.YtbefbhghmommhaaDoorW.PrintWords Go.Proofs.YtbefbhghmommhaaDoor.MWo
theorem opens_part : Opens Tryd.prog 43 k43 (fun _ => True) := by
  intro H enc W fuel cs x h
  obtain ⟨y0, y1, n, _, hl, h0, h1⟩ := Go.ChangeShapes.trod_struct2 Tryd.underlying43 h
  have e2 : Tryd.prog.cellsOf 43 = 2 := by kernel_rfl
  have e1 : Tryd.prog.cellsOf 3 = 1 := by kernel_rfl
  rw [e2] at hl
  obtain ⟨a, b, rfl⟩ : ∃ a b, cs = [a, b] := by
    match cs, hl with
    | [a, b], _ => exact ⟨a, b, rfl⟩
  simp only [e1, List.drop_zero, List.drop_succ_cons, List.take_succ_cons, List.take_zero] at h0 h1
  obtain ⟨p, hp, _, _⟩ := DataW.trod_int Tryd.underlying3 h0
  obtain ⟨q, hq, _, _⟩ := DataW.trod_int Tryd.underlying3 h1
  simp only [List.cons.injEq, and_true] at hp hq
  subst hp
  subst hq
  exact ⟨⟨p, q⟩, k43_mk W ⟨p, q⟩, trivial⟩
theorem opens_two : Opens Tryd.prog 37 k37 (fun _ => True) := by
  intro H enc W fuel cs x h
  obtain ⟨xs, m, _, _, hl, hxl, hel⟩ := DataW.trod_array Tryd.underlying37 h
  rw [show Tryd.prog.cellsOf 37 = 2 by kernel_rfl] at hl
  obtain ⟨u, v, rfl⟩ : ∃ u v, cs = [u, v] := by
    match cs, hl with
    | [u, v], _ => exact ⟨u, v, rfl⟩
  obtain ⟨x, y, rfl⟩ : ∃ x y, xs = [x, y] := by
    match xs, hxl with
    | [x, y], _ => exact ⟨x, y, rfl⟩
  have e0 := hel 0 (by omega)
  have e1 := hel 1 (by omega)
  rw [show Tryd.prog.cellsOf 3 = 1 by kernel_rfl] at e0 e1
  simp at e0 e1
  obtain ⟨a, ha, ra, wa⟩ := DataW.trod_int Tryd.underlying3 e0
  obtain ⟨b, hb, rb, wb⟩ := DataW.trod_int Tryd.underlying3 e1
  simp at ha hb
  subst ha hb
  exact ⟨⟨a, b⟩, k37_mk W ⟨a, b⟩, trivial⟩
theorem opens_link : Opens Tryd.prog 39 k39 (fun _ => True) := by
  intro H enc W fuel cs x h
  obtain ⟨xs, n, _, rfl, hl, hlen, hf⟩ := DataW.trod_struct Tryd.underlying39 h
  rw [show Tryd.prog.cellsOf 39 = 6 by kernel_rfl] at hl
  match xs, hlen, cs, hl with
  | [y0, y1, y2, y3], _, [v0, v1, v2, v3, v4, v5], _ =>
    have g0 : DataW.trod enc Tryd.prog W 0 (fun _ => true) true n 3 (([v0, v1, v2, v3, v4, v5].drop 0).take (Tryd.prog.cellsOf 3)) = some y0 := hf 0 _ rfl
    have g1 : DataW.trod enc Tryd.prog W 0 (fun _ => true) true n 3 (([v0, v1, v2, v3, v4, v5].drop 1).take (Tryd.prog.cellsOf 3)) = some y1 := hf 1 _ rfl
    have g2 : DataW.trod enc Tryd.prog W 0 (fun _ => true) true n 37 (([v0, v1, v2, v3, v4, v5].drop 2).take (Tryd.prog.cellsOf 37)) = some y2 := hf 2 _ rfl
    have g3 : DataW.trod enc Tryd.prog W 0 (fun _ => true) true n 37 (([v0, v1, v2, v3, v4, v5].drop 4).take (Tryd.prog.cellsOf 37)) = some y3 := hf 3 _ rfl
    rw [show Tryd.prog.cellsOf 3 = 1 by kernel_rfl] at g0 g1
    rw [show Tryd.prog.cellsOf 37 = 2 by kernel_rfl] at g2 g3
    obtain ⟨a, ha, _, _⟩ := DataW.trod_int Tryd.underlying3 (show DataW.trod enc Tryd.prog W 0 (fun _ => true) true n 3 [v0] = some y0 by simpa using g0)
    obtain ⟨b, hb, _, _⟩ := DataW.trod_int Tryd.underlying3 (show DataW.trod enc Tryd.prog W 0 (fun _ => true) true n 3 [v1] = some y1 by simpa using g1)
    obtain ⟨p, hp, _⟩ := opens_two enc W n _ _ (show DataW.trod enc Tryd.prog W 0 (fun _ => true) true n 37 [v2, v3] = some y2 by simpa using g2)
    obtain ⟨q, hq, _⟩ := opens_two enc W n _ _ (show DataW.trod enc Tryd.prog W 0 (fun _ => true) true n 37 [v4, v5] = some y3 by simpa using g3)
    have ep := k37_open hp
    have eq := k37_open hq
    simp only [List.cons.injEq, and_true] at ha hb ep eq
    obtain ⟨rfl, rfl⟩ := ep
    obtain ⟨rfl, rfl⟩ := eq
    subst ha hb
    exact ⟨⟨a, b, p, q⟩, k39_mk W ⟨a, b, p, q⟩, trivial⟩
theorem opens_parts : Opens Tryd.prog 22 (Kd.slice 43 k43) (fun l => (∀ x ∈ l, True) ∧ l.length ≤ 9223372036854775807) := opens_slice Tryd.underlying22 (by kernel_rfl) opens_part
theorem opens_links : Opens Tryd.prog 23 (Kd.slice 39 k39) (fun l => (∀ x ∈ l, True) ∧ l.length ≤ 9223372036854775807) := opens_slice Tryd.underlying23 (by kernel_rfl) opens_link
set_option maxHeartbeats 4000000 in
theorem open_config {H : Type} (enc : TypeId × Value → H) (W : World) (fuel : Nat) (cs : List Value) (x : DataW H × List MemPlace) (h : DataW.trod enc Tryd.prog W 0 (fun _ => true) true fuel 25 cs = some x) :
    ∃ (A0 : Option Addr) (c0 : Nat) (P : List S43) (A1 : Option Addr) (c1 : Nat) (Q : List S39) (a2 a3 a4 a5 a6 a7 a8 a9 a10 a11 a12 : Int), cs = [.slice A0 P.length c0, .slice A1 Q.length c1, .int .i64 a2, .int .i64 a3, .int .i64 a4, .int .i64 a5, .int .i64 a6, .int .i64 a7, .int .i64 a8, .int .i64 a9, .int .i64 a10, .int .i64 a11, .int .i64 a12] ∧ P.length ≤ c0 ∧ Kd.C k43 W A0 P.length P ∧ Q.length ≤ c1 ∧ Kd.C k39 W A1 Q.length Q := by
  obtain ⟨xs, n, _, rfl, hl, hlen, hf⟩ := DataW.trod_struct Tryd.underlying25 h
  rw [show Tryd.prog.cellsOf 25 = 13 by kernel_rfl] at hl
  match xs, hlen, cs, hl with
  | [y0, y1, y2, y3, y4, y5, y6, y7, y8, y9, y10, y11, y12], _, [v0, v1, v2, v3, v4, v5, v6, v7, v8, v9, v10, v11, v12], _ =>
    have g0 : DataW.trod enc Tryd.prog W 0 (fun _ => true) true n 22 (([v0, v1, v2, v3, v4, v5, v6, v7, v8, v9, v10, v11, v12].drop 0).take (Tryd.prog.cellsOf 22)) = some y0 := hf 0 _ rfl
    have g1 : DataW.trod enc Tryd.prog W 0 (fun _ => true) true n 23 (([v0, v1, v2, v3, v4, v5, v6, v7, v8, v9, v10, v11, v12].drop 1).take (Tryd.prog.cellsOf 23)) = some y1 := hf 1 _ rfl
    have g2 : DataW.trod enc Tryd.prog W 0 (fun _ => true) true n 3 (([v0, v1, v2, v3, v4, v5, v6, v7, v8, v9, v10, v11, v12].drop 2).take (Tryd.prog.cellsOf 3)) = some y2 := hf 2 _ rfl
    have g3 : DataW.trod enc Tryd.prog W 0 (fun _ => true) true n 3 (([v0, v1, v2, v3, v4, v5, v6, v7, v8, v9, v10, v11, v12].drop 3).take (Tryd.prog.cellsOf 3)) = some y3 := hf 3 _ rfl
    have g4 : DataW.trod enc Tryd.prog W 0 (fun _ => true) true n 3 (([v0, v1, v2, v3, v4, v5, v6, v7, v8, v9, v10, v11, v12].drop 4).take (Tryd.prog.cellsOf 3)) = some y4 := hf 4 _ rfl
    have g5 : DataW.trod enc Tryd.prog W 0 (fun _ => true) true n 3 (([v0, v1, v2, v3, v4, v5, v6, v7, v8, v9, v10, v11, v12].drop 5).take (Tryd.prog.cellsOf 3)) = some y5 := hf 5 _ rfl
    have g6 : DataW.trod enc Tryd.prog W 0 (fun _ => true) true n 3 (([v0, v1, v2, v3, v4, v5, v6, v7, v8, v9, v10, v11, v12].drop 6).take (Tryd.prog.cellsOf 3)) = some y6 := hf 6 _ rfl
    have g7 : DataW.trod enc Tryd.prog W 0 (fun _ => true) true n 3 (([v0, v1, v2, v3, v4, v5, v6, v7, v8, v9, v10, v11, v12].drop 7).take (Tryd.prog.cellsOf 3)) = some y7 := hf 7 _ rfl
    have g8 : DataW.trod enc Tryd.prog W 0 (fun _ => true) true n 3 (([v0, v1, v2, v3, v4, v5, v6, v7, v8, v9, v10, v11, v12].drop 8).take (Tryd.prog.cellsOf 3)) = some y8 := hf 8 _ rfl
    have g9 : DataW.trod enc Tryd.prog W 0 (fun _ => true) true n 3 (([v0, v1, v2, v3, v4, v5, v6, v7, v8, v9, v10, v11, v12].drop 9).take (Tryd.prog.cellsOf 3)) = some y9 := hf 9 _ rfl
    have g10 : DataW.trod enc Tryd.prog W 0 (fun _ => true) true n 3 (([v0, v1, v2, v3, v4, v5, v6, v7, v8, v9, v10, v11, v12].drop 10).take (Tryd.prog.cellsOf 3)) = some y10 := hf 10 _ rfl
    have g11 : DataW.trod enc Tryd.prog W 0 (fun _ => true) true n 3 (([v0, v1, v2, v3, v4, v5, v6, v7, v8, v9, v10, v11, v12].drop 11).take (Tryd.prog.cellsOf 3)) = some y11 := hf 11 _ rfl
    have g12 : DataW.trod enc Tryd.prog W 0 (fun _ => true) true n 3 (([v0, v1, v2, v3, v4, v5, v6, v7, v8, v9, v10, v11, v12].drop 12).take (Tryd.prog.cellsOf 3)) = some y12 := hf 12 _ rfl
    rw [show Tryd.prog.cellsOf 22 = 1 by kernel_rfl] at g0
    rw [show Tryd.prog.cellsOf 23 = 1 by kernel_rfl] at g1
    rw [show Tryd.prog.cellsOf 3 = 1 by kernel_rfl] at g2 g3 g4 g5 g6 g7 g8 g9 g10 g11 g12
    obtain ⟨P, ⟨A0, c0, e0, l0, C0⟩, _⟩ := opens_parts enc W n _ _ (show DataW.trod enc Tryd.prog W 0 (fun _ => true) true n 22 [v0] = some y0 by simpa using g0)
    obtain ⟨Q, ⟨A1, c1, e1, l1, C1⟩, _⟩ := opens_links enc W n _ _ (show DataW.trod enc Tryd.prog W 0 (fun _ => true) true n 23 [v1] = some y1 by simpa using g1)
    obtain ⟨a2, e2, _, _⟩ := DataW.trod_int Tryd.underlying3 (show DataW.trod enc Tryd.prog W 0 (fun _ => true) true n 3 [v2] = some y2 by simpa using g2)
    obtain ⟨a3, e3, _, _⟩ := DataW.trod_int Tryd.underlying3 (show DataW.trod enc Tryd.prog W 0 (fun _ => true) true n 3 [v3] = some y3 by simpa using g3)
    obtain ⟨a4, e4, _, _⟩ := DataW.trod_int Tryd.underlying3 (show DataW.trod enc Tryd.prog W 0 (fun _ => true) true n 3 [v4] = some y4 by simpa using g4)
    obtain ⟨a5, e5, _, _⟩ := DataW.trod_int Tryd.underlying3 (show DataW.trod enc Tryd.prog W 0 (fun _ => true) true n 3 [v5] = some y5 by simpa using g5)
    obtain ⟨a6, e6, _, _⟩ := DataW.trod_int Tryd.underlying3 (show DataW.trod enc Tryd.prog W 0 (fun _ => true) true n 3 [v6] = some y6 by simpa using g6)
    obtain ⟨a7, e7, _, _⟩ := DataW.trod_int Tryd.underlying3 (show DataW.trod enc Tryd.prog W 0 (fun _ => true) true n 3 [v7] = some y7 by simpa using g7)
    obtain ⟨a8, e8, _, _⟩ := DataW.trod_int Tryd.underlying3 (show DataW.trod enc Tryd.prog W 0 (fun _ => true) true n 3 [v8] = some y8 by simpa using g8)
    obtain ⟨a9, e9, _, _⟩ := DataW.trod_int Tryd.underlying3 (show DataW.trod enc Tryd.prog W 0 (fun _ => true) true n 3 [v9] = some y9 by simpa using g9)
    obtain ⟨a10, e10, _, _⟩ := DataW.trod_int Tryd.underlying3 (show DataW.trod enc Tryd.prog W 0 (fun _ => true) true n 3 [v10] = some y10 by simpa using g10)
    obtain ⟨a11, e11, _, _⟩ := DataW.trod_int Tryd.underlying3 (show DataW.trod enc Tryd.prog W 0 (fun _ => true) true n 3 [v11] = some y11 by simpa using g11)
    obtain ⟨a12, e12, _, _⟩ := DataW.trod_int Tryd.underlying3 (show DataW.trod enc Tryd.prog W 0 (fun _ => true) true n 3 [v12] = some y12 by simpa using g12)
    simp only [List.cons.injEq, and_true] at e0 e1 e2 e3 e4 e5 e6 e7 e8 e9 e10 e11 e12
    subst e0 e1 e2 e3 e4 e5 e6 e7 e8 e9 e10 e11 e12
    exact ⟨A0, c0, P, A1, c1, Q, a2, a3, a4, a5, a6, a7, a8, a9, a10, a11, a12, rfl, l0, C0, l1, C1⟩
end Go.Proofs.YtbefbhghmommhaaDoor.Opn
