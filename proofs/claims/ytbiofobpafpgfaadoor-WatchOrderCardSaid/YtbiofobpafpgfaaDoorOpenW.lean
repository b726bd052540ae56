/- What came in, opened: rows of structs with rows in them, and how many bytes each row takes. -/
import Derived.Lib.SmallJoins
import Derived.Deep.Slices
import Derived.DataReads
import Derived.ChangeArms
import Derived.ChangeSame
import Derived.SizedLaws
import Derived.Test.YtbiofobpafpgfaaDoorHWl
namespace Go.Proofs.YtbiofobpafpgfaaDoor.Opn
open Go.Joins Go.Deep Go.ChangeShapes Go.WideShapes Go.RowKit Go.Proofs.YtbiofobpafpgfaaDoorW.PrintWords Go.Proofs.YtbiofobpafpgfaaDoor.MWo
/-- Whatever reads as type t, of data that fit, has the cells of kind d, of a datum that is good. -/
def OpensW (P : Program) (t : TypeId) {α : Type} (d : Kd α) (good : α → Prop) : Prop :=
  ∀ {H : Type} (enc : TypeId × Value → H) (W : World) (fuel : Nat) (cs : List Value) (x : DataW H × List MemPlace),
    DataW.trod enc P W 0 (fun _ => true) true fuel t cs = some x → (∀ n ∈ x.1.weights P t, n ≤ reachBytes) → ∃ a, d.K W a cs ∧ good a
theorem opensW_int {P : Program} {t : TypeId} {k : IntKind} (ht : P.underlying t = some (.int k)) : OpensW P t (Kd.int k) (fun n => (Lit.int k n).wf = true) := by
  intro H enc W fuel cs x h _
  obtain ⟨n, rfl, _, hw⟩ := DataW.trod_int ht h
  exact ⟨n, rfl, hw⟩
theorem listOf {α : Type} {Q : Nat → α → Prop} : ∀ n : Nat, (∀ i, i < n → ∃ y, Q i y) → ∃ l : List α, l.length = n ∧ ∀ i y, l[i]? = some y → Q i y
  | 0, _ => ⟨[], rfl, fun i y h => by simp at h⟩
  | n + 1, h => by
    obtain ⟨l, hl, hq⟩ := listOf n (fun i hi => h i (by omega))
    obtain ⟨y, hy⟩ := h n (by omega)
    refine ⟨l ++ [y], by simp [hl], fun i z hz => ?_⟩
    by_cases hi : i < n
    · rw [List.getElem?_append_left (by omega)] at hz
      exact hq i z hz
    · rw [List.getElem?_append_right (by omega)] at hz
      have hin : i = n := by
        have := (List.getElem?_eq_some_iff.1 hz).1
        simp at this; omega
      subst hin
      simp [hl] at hz
      subst hz
      exact hy
theorem weights_all {H : Type} {P : Program} {e : TypeId} : ∀ {ds : List (DataW H)} {d : DataW H}, d ∈ ds → ∀ n ∈ d.weights P e, n ∈ DataW.weightsAll P e ds
  | d0 :: r, d, hd, n, hn => by
    simp only [DataW.weightsAll, List.mem_append]
    rcases List.mem_cons.1 hd with rfl | hd
    · exact Or.inl hn
    · exact Or.inr (weights_all hd n hn)
  | [], _, hd, _, _ => by simp at hd
theorem opensW_slice {P : Program} {t e : TypeId} {α : Type} {d : Kd α} {good : α → Prop} (ht : P.underlying t = some (.slice e)) (hc : P.cellsOf e = d.sz) (h0 : OpensW P e d good) :
    OpensW P t (Kd.slice e d) (fun l => (∀ x ∈ l, good x) ∧ l.length ≤ 9223372036854775807 ∧ l.length * P.bytesOf e ≤ reachBytes) := by
  intro H enc W fuel cs x h hw
  rcases Deep.open_slice ht h with ⟨rfl, _⟩ | ⟨a, len, cap, m, n, D, Pl, rfl, _, hl, hm, hm', hx, hel⟩
  · exact ⟨[], ⟨none, 0, rfl, Nat.le_refl _, rfl, by simp, fun hp => absurd hp (by simp)⟩, by simp, by simp, by simp⟩
  · have hlm : len ≤ m := by rw [hm']; simpa using hl
    have hmax : len ≤ 9223372036854775807 := by unfold maxLen at hm; omega
    have hwt : x.1.weights P t = (len + (m - len)) * P.bytesOf e :: (DataW.weightsAll P e ((List.range len).map D) ++ DataW.weightsAll P e ((List.range (m - len)).map fun j => D (len + j))) := by
      rw [hx]; simp [DataW.weights, ht]
    obtain ⟨l, hlen, hq⟩ := listOf (Q := fun i y => (∃ c : List Value, c.length = d.sz ∧ d.K W y c ∧ ∀ j u, c[j]? = some u → W.cell? (a.add (i * d.sz + j)) = some u) ∧ good y) len (fun i hi => by
      obtain ⟨cs', h1, h2⟩ := hel i (by omega)
      obtain ⟨y, hy, hg⟩ := h0 enc W n cs' _ h2 (fun q hq => hw q (by rw [hwt]; refine List.mem_cons_of_mem _ (List.mem_append_left _ (weights_all (d := D i) ?_ q hq)); exact List.mem_map.2 ⟨i, List.mem_range.2 hi, rfl⟩))
      obtain ⟨_, h3, h4⟩ := World.cells?_some h1
      refine ⟨y, ⟨cs', by rw [h3, hc], hy, fun j u hu => ?_⟩, hg⟩
      have hj := (List.getElem?_eq_some_iff.1 hu).1
      have := h4 j (by omega)
      rw [hu, hc] at this
      rw [← this, Deep.add_add])
    have hb := hw _ (by rw [hwt]; exact List.mem_cons_self)
    subst hlen
    refine ⟨l, ⟨some a, cap, rfl, hl, rfl, hmax, fun _ => ⟨a, rfl, fun j p hj => (hq j p hj).1⟩⟩, fun y hy => by
      obtain ⟨i, hi⟩ := List.mem_iff_getElem?.1 hy
      exact (hq i y hi).2, hmax, ?_⟩
    refine Nat.le_trans (Nat.mul_le_mul_right _ (Nat.le_add_right l.length (m - l.length))) hb
/-- A struct of four fields of one cell each. -/
theorem four {H : Type} {enc : TypeId × Value → H} {P : Program} {W : World} {t : TypeId} {f0 f1 f2 f3 : Field} {fuel : Nat} {cs : List Value} {x : DataW H × List MemPlace} (ht : P.underlying t = some (.struct #[f0, f1, f2, f3])) (hC : P.cellsOf t = 4)
    (o : f0.offset = 0 ∧ f1.offset = 1 ∧ f2.offset = 2 ∧ f3.offset = 3) (c1 : P.cellsOf f0.type = 1 ∧ P.cellsOf f1.type = 1 ∧ P.cellsOf f2.type = 1 ∧ P.cellsOf f3.type = 1) (h : DataW.trod enc P W 0 (fun _ => true) true fuel t cs = some x) :
    ∃ v0 v1 v2 v3 y0 y1 y2 y3 n, cs = [v0, v1, v2, v3] ∧ x.1 = .agg [y0.1, y1.1, y2.1, y3.1] ∧ DataW.trod enc P W 0 (fun _ => true) true n f0.type [v0] = some y0 ∧ DataW.trod enc P W 0 (fun _ => true) true n f1.type [v1] = some y1 ∧ DataW.trod enc P W 0 (fun _ => true) true n f2.type [v2] = some y2 ∧ DataW.trod enc P W 0 (fun _ => true) true n f3.type [v3] = some y3 := by
  obtain ⟨xs, n, _, rfl, hl, hlen, hf⟩ := DataW.trod_struct ht h
  rw [hC] at hl
  match xs, hlen, cs, hl with
  | [y0, y1, y2, y3], _, [v0, v1, v2, v3], _ =>
    have g0 := hf 0 f0 rfl
    have g1 := hf 1 f1 rfl
    have g2 := hf 2 f2 rfl
    have g3 := hf 3 f3 rfl
    rw [o.1, c1.1] at g0
    rw [o.2.1, c1.2.1] at g1
    rw [o.2.2.1, c1.2.2.1] at g2
    rw [o.2.2.2, c1.2.2.2] at g3
    exact ⟨v0, v1, v2, v3, y0, y1, y2, y3, n, rfl, by simp, by simpa using g0, by simpa using g1, by simpa using g2, by simpa using g3⟩
def goodG (x : S52) : Prop := (Lit.int .i64 x.f0).wf = true ∧ (Lit.int .i64 x.f1).wf = true
def goodI (x : Itm) : Prop := (Lit.int .i64 x.f0).wf = true ∧ (Lit.int .i64 x.f2).wf = true ∧ x.f3.length < 140737488355328
theorem bytesB : Tryd.prog.bytesOf 5 = 1 := by kernel_rfl
theorem opensB : OpensW Tryd.prog 28 (Kd.slice 5 (Kd.int .u8)) (fun l => (∀ x ∈ l, (Lit.int .u8 x).wf = true) ∧ l.length ≤ 9223372036854775807 ∧ l.length * Tryd.prog.bytesOf 5 ≤ reachBytes) := opensW_slice Tryd.underlying28 (by kernel_rfl) (opensW_int Tryd.underlying5)
theorem weights4 {H : Type} {P : Program} {t : TypeId} {f0 f1 f2 f3 : Field} {d0 d1 d2 d3 : DataW H} (ht : P.underlying t = some (.struct #[f0, f1, f2, f3])) : ∀ n ∈ d3.weights P f3.type, n ∈ (DataW.agg [d0, d1, d2, d3]).weights P t := by
  intro n hn
  simp only [DataW.weights, ht, List.map_cons, List.map_nil, DataW.weightsEach, List.mem_append]
  exact Or.inr (Or.inr (Or.inr (Or.inl hn)))
theorem opens_got : OpensW Tryd.prog 52 k52 goodG := by
  intro H enc W fuel cs x h hw
  obtain ⟨v0, v1, v2, v3, y0, y1, y2, y3, n, rfl, hx, h0, h1, h2, h3⟩ := four Tryd.underlying52 (by kernel_rfl) ⟨rfl, rfl, rfl, rfl⟩ ⟨by kernel_rfl, by kernel_rfl, by kernel_rfl, by kernel_rfl⟩ h
  obtain ⟨a, ha, _, wa⟩ := DataW.trod_int Tryd.underlying3 h0
  obtain ⟨b, hb, _, wb⟩ := DataW.trod_int Tryd.underlying2 h1
  obtain ⟨c, hc, _⟩ := DataW.trod_bool Tryd.underlying4 h2
  obtain ⟨l, ⟨A, cc, hcs, hle, hC⟩, hg⟩ := opensB enc W n _ _ h3 (fun n hn => hw n (by rw [hx]; exact weights4 Tryd.underlying52 n hn))
  simp only [List.cons.injEq, and_true] at ha hb hc hcs
  subst ha hb hc hcs
  exact ⟨⟨a, b, c, l⟩, k52_mk W ⟨a, b, c, l⟩ hle hC, wa, wb⟩
theorem opens_item : OpensW Tryd.prog 30 itk goodI := by
  intro H enc W fuel cs x h hw
  obtain ⟨v0, v1, v2, v3, y0, y1, y2, y3, n, rfl, hx, h0, h1, h2, h3⟩ := four Tryd.underlying30 (by kernel_rfl) ⟨rfl, rfl, rfl, rfl⟩ ⟨by kernel_rfl, by kernel_rfl, by kernel_rfl, by kernel_rfl⟩ h
  obtain ⟨a, ha, _, wa⟩ := DataW.trod_int Tryd.underlying3 h0
  obtain ⟨b, hb, _, wb⟩ := DataW.trod_int Tryd.underlying3 h1
  obtain ⟨c, hc, _, wc⟩ := DataW.trod_int Tryd.underlying2 h2
  obtain ⟨l, ⟨A, cc, hcs, hle, hC⟩, hg⟩ := opensB enc W n _ _ h3 (fun n hn => hw n (by rw [hx]; exact weights4 Tryd.underlying30 n hn))
  simp only [List.cons.injEq, and_true] at ha hb hc hcs
  subst ha hb hc hcs
  refine ⟨⟨a, b, c, l⟩, ⟨A, cc, rfl, hle, hC⟩, wa, wc, ?_⟩
  have := hg.2.2
  rw [bytesB] at this
  unfold reachBytes at this
  show l.length < 140737488355328
  omega
end Go.Proofs.YtbiofobpafpgfaaDoor.Opn
