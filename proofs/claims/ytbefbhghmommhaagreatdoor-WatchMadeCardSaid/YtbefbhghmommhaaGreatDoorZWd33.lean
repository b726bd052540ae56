/- Texts of this claim, laid together by a program (wip/g/merge5.py): OpenC. -/
import Derived.Lib.SmallJoins
import Derived.Deep.Slices
import Derived.DataReads
import Derived.ChangeArms
import Derived.Test.YtbefbhghmommhaaGreatDoorZWd4
set_option maxRecDepth 100000
set_option linter.unusedVariables false
namespace Go.Proofs.YtbefbhghmommhaaGreatDoor.Opn
open Go.Joins Go.Deep Go.ChangeShapes Go.WideShapes Go.RowKit Go.Proofs.YtbefbhghmommhaaGreatDoorW.PrintWords Go.Proofs.YtbefbhghmommhaaGreatDoor.MWo
def Opens (P : Program) (t : TypeId) {α : Type} (d : Kd α) (good : α → Prop) : Prop :=
  ∀ {H : Type} (enc : TypeId × Value → H) (W : World) (fuel : Nat) (cs : List Value) (x : DataW H × List MemPlace),
    DataW.trod enc P W 0 (fun _ => true) true fuel t cs = some x → ∃ a, d.K W a cs ∧ good a
theorem opens_int {P : Program} {t : TypeId} {k : IntKind} (ht : P.underlying t = some (.int k)) : Opens P t (Kd.int k) (fun n => (Lit.int k n).wf = true) := by
  intro H enc W fuel cs x h
  obtain ⟨n, rfl, _, hw⟩ := DataW.trod_int ht h
  exact ⟨n, rfl, hw⟩
theorem listOf {α : Type} {Q : Nat → α → Prop} : ∀ n : Nat, (∀ i, i < n → ∃ y, Q i y) → ∃ l : List α, l.length = n ∧ ∀ i y, l[i]? = some y → Q i y
  | 0, _ => ⟨[], rfl, fun i y h => by simp at h⟩
  | n + 1, h => by
    obtain ⟨l, hl, hq⟩ := listOf n (fun i hi => h i (by omega))
    obtain ⟨y, hy⟩ := h n (by omega)
    refine ⟨l ++ [y], by simp [hl], fun i z hz => ?_⟩
    by_cases hi : i < n
    · rw [List.getElem?_append_left (by omega)] at hz
      exact hq i z hz
    · rw [List.getElem?_append_right (by omega)] at hz
      have hin : i = n := by
        have := (List.getElem?_eq_some_iff.1 hz).1
        simp at this; omega
      subst hin
      simp [hl] at hz
      subst hz
      exact hy
theorem opens_slice {P : Program} {t e : TypeId} {α : Type} {d : Kd α} {good : α → Prop} (ht : P.underlying t = some (.slice e)) (hc : P.cellsOf e = d.sz) (h0 : Opens P e d good) :
    Opens P t (Kd.slice e d) (fun l => (∀ x ∈ l, good x) ∧ l.length ≤ 9223372036854775807) := by
  intro H enc W fuel cs x h
  rcases Deep.open_slice ht h with ⟨rfl, _⟩ | ⟨a, len, cap, m, n, D, Pl, rfl, _, hl, hm, hm', _, hel⟩
  · exact ⟨[], ⟨none, 0, rfl, Nat.le_refl _, rfl, by simp, fun hp => absurd hp (by simp)⟩, by simp, by simp⟩
  · have hlm : len ≤ m := by rw [hm']; simpa using hl
    have hmax : len ≤ 9223372036854775807 := by unfold maxLen at hm; omega
    obtain ⟨l, hlen, hq⟩ := listOf (Q := fun i y => (∃ c : List Value, c.length = d.sz ∧ d.K W y c ∧ ∀ j u, c[j]? = some u → W.cell? (a.add (i * d.sz + j)) = some u) ∧ good y) len (fun i hi => by
      obtain ⟨cs', h1, h2⟩ := hel i (by omega)
      obtain ⟨y, hy, hg⟩ := h0 enc W n cs' _ h2
      obtain ⟨_, h3, h4⟩ := World.cells?_some h1
      refine ⟨y, ⟨cs', by rw [h3, hc], hy, fun j u hu => ?_⟩, hg⟩
      have hj := (List.getElem?_eq_some_iff.1 hu).1
      have := h4 j (by omega)
      rw [hu, hc] at this
      rw [← this, Deep.add_add])
    subst hlen
    exact ⟨l, ⟨some a, cap, rfl, hl, rfl, hmax, fun _ => ⟨a, rfl, fun j p hj => (hq j p hj).1⟩⟩, fun y hy => by
      obtain ⟨i, hi⟩ := List.mem_iff_getElem?.1 hy
      exact (hq i y hi).2, hmax⟩
theorem eight {H : Type} {enc : TypeId × Value → H} {P : Program} {W : World} {t : TypeId} {f0 f1 f2 f3 f4 f5 f6 f7 : Field} {fuel : Nat} {cs : List Value} {x : DataW H × List MemPlace} (ht : P.underlying t = some (.struct #[f0, f1, f2, f3, f4, f5, f6, f7])) (hC : P.cellsOf t = 8)
    (o : f0.offset = 0 ∧ f1.offset = 1 ∧ f2.offset = 2 ∧ f3.offset = 3 ∧ f4.offset = 4 ∧ f5.offset = 5 ∧ f6.offset = 6 ∧ f7.offset = 7) (c1 : P.cellsOf f0.type = 1 ∧ P.cellsOf f1.type = 1 ∧ P.cellsOf f2.type = 1 ∧ P.cellsOf f3.type = 1 ∧ P.cellsOf f4.type = 1 ∧ P.cellsOf f5.type = 1 ∧ P.cellsOf f6.type = 1 ∧ P.cellsOf f7.type = 1) (h : DataW.trod enc P W 0 (fun _ => true) true fuel t cs = some x) :
    ∃ v0 v1 v2 v3 v4 v5 v6 v7 y0 y1 y2 y3 y4 y5 y6 y7 n, cs = [v0, v1, v2, v3, v4, v5, v6, v7] ∧ DataW.trod enc P W 0 (fun _ => true) true n f0.type [v0] = some y0 ∧ DataW.trod enc P W 0 (fun _ => true) true n f1.type [v1] = some y1 ∧ DataW.trod enc P W 0 (fun _ => true) true n f2.type [v2] = some y2 ∧ DataW.trod enc P W 0 (fun _ => true) true n f3.type [v3] = some y3 ∧ DataW.trod enc P W 0 (fun _ => true) true n f4.type [v4] = some y4 ∧ DataW.trod enc P W 0 (fun _ => true) true n f5.type [v5] = some y5 ∧ DataW.trod enc P W 0 (fun _ => true) true n f6.type [v6] = some y6 ∧ DataW.trod enc P W 0 (fun _ => true) true n f7.type [v7] = some y7 := by
  obtain ⟨xs, n, _, rfl, hl, hlen, hf⟩ := DataW.trod_struct ht h
  rw [hC] at hl
  obtain ⟨o0, o1, o2, o3, o4, o5, o6, o7⟩ := o
  obtain ⟨k0, k1, k2, k3, k4, k5, k6, k7⟩ := c1
  match xs, hlen, cs, hl with
  | [y0, y1, y2, y3, y4, y5, y6, y7], _, [v0, v1, v2, v3, v4, v5, v6, v7], _ =>
    have g0 := hf 0 f0 rfl
    rw [o0, k0] at g0
    have g1 := hf 1 f1 rfl
    rw [o1, k1] at g1
    have g2 := hf 2 f2 rfl
    rw [o2, k2] at g2
    have g3 := hf 3 f3 rfl
    rw [o3, k3] at g3
    have g4 := hf 4 f4 rfl
    rw [o4, k4] at g4
    have g5 := hf 5 f5 rfl
    rw [o5, k5] at g5
    have g6 := hf 6 f6 rfl
    rw [o6, k6] at g6
    have g7 := hf 7 f7 rfl
    rw [o7, k7] at g7
    exact ⟨v0, v1, v2, v3, v4, v5, v6, v7, y0, y1, y2, y3, y4, y5, y6, y7, n, rfl, by simpa using g0, by simpa using g1, by simpa using g2, by simpa using g3, by simpa using g4, by simpa using g5, by simpa using g6, by simpa using g7⟩
theorem three {H : Type} {enc : TypeId × Value → H} {P : Program} {W : World} {t : TypeId} {f0 f1 f2 : Field} {fuel : Nat} {cs : List Value} {x : DataW H × List MemPlace} (ht : P.underlying t = some (.struct #[f0, f1, f2])) (hC : P.cellsOf t = 3)
    (o : f0.offset = 0 ∧ f1.offset = 1 ∧ f2.offset = 2) (c1 : P.cellsOf f0.type = 1 ∧ P.cellsOf f1.type = 1 ∧ P.cellsOf f2.type = 1) (h : DataW.trod enc P W 0 (fun _ => true) true fuel t cs = some x) :
    ∃ v0 v1 v2 y0 y1 y2 n, cs = [v0, v1, v2] ∧ DataW.trod enc P W 0 (fun _ => true) true n f0.type [v0] = some y0 ∧ DataW.trod enc P W 0 (fun _ => true) true n f1.type [v1] = some y1 ∧ DataW.trod enc P W 0 (fun _ => true) true n f2.type [v2] = some y2 := by
  obtain ⟨xs, n, _, rfl, hl, hlen, hf⟩ := DataW.trod_struct ht h
  rw [hC] at hl
  obtain ⟨o0, o1, o2⟩ := o
  obtain ⟨k0, k1, k2⟩ := c1
  match xs, hlen, cs, hl with
  | [y0, y1, y2], _, [v0, v1, v2], _ =>
    have g0 := hf 0 f0 rfl
    rw [o0, k0] at g0
    have g1 := hf 1 f1 rfl
    rw [o1, k1] at g1
    have g2 := hf 2 f2 rfl
    rw [o2, k2] at g2
    exact ⟨v0, v1, v2, y0, y1, y2, n, rfl, by simpa using g0, by simpa using g1, by simpa using g2⟩
def wfi (n : Int) : Prop := (Lit.int .i64 n).wf = true
def goodN (x : S55) : Prop := wfi x.f0 ∧ wfi x.f1 ∧ wfi x.f2 ∧ wfi x.f3 ∧ wfi x.f4 ∧ (∀ z ∈ x.f5, wfi z) ∧ wfi x.f6 ∧ wfi x.f7
def goodGd (x : S35) : Prop := wfi x.f1 ∧ ∀ z ∈ x.f2, wfi z
def goodC (x : S37) : Prop := (∀ z ∈ x.f0, goodN z) ∧ goodGd x.f1
theorem opensI : Opens Tryz.prog 33 (Kd.slice 3 (Kd.int .i64)) (fun l => (∀ x ∈ l, (Lit.int .i64 x).wf = true) ∧ l.length ≤ 9223372036854775807) := opens_slice Tryz.underlying33 (by kernel_rfl) (opens_int Tryz.underlying3)
theorem opens_node : Opens Tryz.prog 55 k55 goodN := by
  intro H enc W fuel cs x h
  obtain ⟨v0, v1, v2, v3, v4, v5, v6, v7, y0, y1, y2, y3, y4, y5, y6, y7, n, rfl, h0, h1, h2, h3, h4, h5, h6, h7⟩ := eight Tryz.underlying55 (by kernel_rfl) ⟨rfl, rfl, rfl, rfl, rfl, rfl, rfl, rfl⟩ ⟨by kernel_rfl, by kernel_rfl, by kernel_rfl, by kernel_rfl, by kernel_rfl, by kernel_rfl, by kernel_rfl, by kernel_rfl⟩ h
  obtain ⟨a0, e0, _, w0⟩ := DataW.trod_int Tryz.underlying3 h0
  obtain ⟨a1, e1, _, w1⟩ := DataW.trod_int Tryz.underlying3 h1
  obtain ⟨a2, e2, _, w2⟩ := DataW.trod_int Tryz.underlying3 h2
  obtain ⟨a3, e3, _, w3⟩ := DataW.trod_int Tryz.underlying2 h3
  obtain ⟨a4, e4, _, w4⟩ := DataW.trod_int Tryz.underlying2 h4
  obtain ⟨l, ⟨A, cc, e5, hle, hC⟩, hg⟩ := opensI enc W n _ _ h5
  obtain ⟨a6, e6, _, w6⟩ := DataW.trod_int Tryz.underlying3 h6
  obtain ⟨a7, e7, _, w7⟩ := DataW.trod_int Tryz.underlying3 h7
  simp only [List.cons.injEq, and_true] at e0 e1 e2 e3 e4 e5 e6 e7
  subst e0 e1 e2 e3 e4 e5 e6 e7
  exact ⟨⟨a0, a1, a2, a3, a4, l, a6, a7⟩, k55_mk W ⟨a0, a1, a2, a3, a4, l, a6, a7⟩ hle hC, w0, w1, w2, w3, w4, hg.1, w6, w7⟩
theorem opens_guard : Opens Tryz.prog 35 k35 goodGd := by
  intro H enc W fuel cs x h
  obtain ⟨v0, v1, v2, y0, y1, y2, n, rfl, h0, h1, h2⟩ := three Tryz.underlying35 (by kernel_rfl) ⟨rfl, rfl, rfl⟩ ⟨by kernel_rfl, by kernel_rfl, by kernel_rfl⟩ h
  obtain ⟨a0, e0, _⟩ := DataW.trod_bool Tryz.underlying4 h0
  obtain ⟨a1, e1, _, w1⟩ := DataW.trod_int Tryz.underlying2 h1
  obtain ⟨l, ⟨A, cc, e2, hle, hC⟩, hg⟩ := opensI enc W n _ _ h2
  simp only [List.cons.injEq, and_true] at e0 e1 e2
  subst e0 e1 e2
  exact ⟨⟨a0, a1, l⟩, k35_mk W ⟨a0, a1, l⟩ hle hC, w1, hg.1⟩
theorem opensN : Opens Tryz.prog 32 (Kd.slice 55 k55) (fun l => (∀ x ∈ l, goodN x) ∧ l.length ≤ 9223372036854775807) := opens_slice Tryz.underlying32 (by kernel_rfl) opens_node
theorem opens_cell : Opens Tryz.prog 37 k37 goodC := by
  intro H enc W fuel cs x h
  obtain ⟨xs, n, _, rfl, hl, hlen, hf⟩ := DataW.trod_struct Tryz.underlying37 h
  rw [show Tryz.prog.cellsOf 37 = 4 by kernel_rfl] at hl
  match xs, hlen, cs, hl with
  | [y0, y1], _, [v0, v1, v2, v3], _ =>
    have g0 : DataW.trod enc Tryz.prog W 0 (fun _ => true) true n 32 (([v0, v1, v2, v3].drop 0).take (Tryz.prog.cellsOf 32)) = some y0 := hf 0 _ rfl
    have g1 : DataW.trod enc Tryz.prog W 0 (fun _ => true) true n 35 (([v0, v1, v2, v3].drop 1).take (Tryz.prog.cellsOf 35)) = some y1 := hf 1 _ rfl
    rw [show Tryz.prog.cellsOf 32 = 1 by kernel_rfl] at g0
    rw [show Tryz.prog.cellsOf 35 = 3 by kernel_rfl] at g1
    obtain ⟨l, ⟨A, cc, e0, hle, hC⟩, hg⟩ := opensN enc W n _ _ (show DataW.trod enc Tryz.prog W 0 (fun _ => true) true n 32 [v0] = some y0 by simpa using g0)
    obtain ⟨gd, hK, hgd⟩ := opens_guard enc W n _ _ (show DataW.trod enc Tryz.prog W 0 (fun _ => true) true n 35 [v1, v2, v3] = some y1 by simpa using g1)
    obtain ⟨A3, c3, e3, hle3, hC3⟩ := k35_open hK
    simp only [List.cons.injEq, and_true] at e0 e3
    obtain ⟨rfl, rfl, rfl⟩ := e3
    subst e0
    exact ⟨⟨l, gd⟩, k37_mk W ⟨l, gd⟩ hle hC hle3 hC3, hg.1, hgd⟩
end Go.Proofs.YtbefbhghmommhaaGreatDoor.Opn
