/- The row of AgesOrder: for every input the law returns true and leaves its arguments as they were. No conditions. -/
import Derived.Test.YthkagdbabkkomaaRows
import Derived.Test.YthkagdbabkkomaaPuAgesOrder
import Derived.Test.YthkagdbabkkomaaOpen
import Derived.WalkKit
import Derived.ProofKit
import Derived.OpenShut
import Derived.ShutString
import Derived.ChangeOld
import Derived.Below
import Derived.SizedLaws
import Derived.Lib.SmallJoins
import Derived.Carry
namespace Go.Proofs.Ythkagdbabkkomaa.agesOrder
open Go.ChangeShapes Go.WideShapes Go.ChangeAt Go.RowKit Go.Joins Go.Proofs.Ythkagdbabkkomaa.Opn Go.Proofs.YthkagdbabkkomaaW.PrintWords
open Go.ChangeMaps (open_string shut_string)
set_option linter.unusedVariables false
theorem own : ownKnob Try.prog.godebug = none := by kernel_rfl
theorem laidOut : laidOutB Try.prog = true := by kernel_rfl
set_option maxRecDepth 100000 in
theorem lifted (os : Os) (started : os.Started) (H : Type) (enc : TypeId × Value → H) :
    ReturnsInHanded {} Try.checked os 6 .any (Rows.agesOrderSpec.pre6 enc Try.prog Try.f6 Rows.agesOrderRow.domain false) (Rows.agesOrderSpec.post enc Try.prog Try.f6 false true false false) := by
  refine returnsInHanded_of_change_sized (C := Try.checked) own started (by kernel_rfl) Try.func6
    (ChangeSpec.witness6 (enc := enc) (C := Try.checked) false ⟨#[], #[.slice none 0 0, .int .i64 0, .slice none 0 0, .slice none 0 0, .int .i64 0], []⟩ 8 (by kernel_rfl) (by kernel_rfl) (by kernel_rfl) (by kernel_rfl)) ?_
  intro W base args ds gs before hval0 hW hcnd hsz0 _
  have hval : ∀ (j : Nat) t v, Try.f6.params[j]? = some t → args[j]? = some v → Value.okWide Try.prog W .any base t v := hval0
  have hW' := hW
  obtain ⟨p, q, hA0, hV, rfl, hfz, hnd⟩ := hW
  have hA : DataW.TrodAll enc Try.prog W 0 (fun _ => true) true Try.f6.params.toList args.toList ds p := hA0
  rw [Try.params6] at hA hval
  obtain ⟨v0, vs0, d0, ds0, p0, q0, hargs, rfl, rfl, h0, r0⟩ := trodAll_cons hA
  obtain ⟨v1, vs1, d1, ds1, p1, q1, rfl, rfl, rfl, h1, r1⟩ := trodAll_cons r0
  obtain ⟨v2, vs2, d2, ds2, p2, q2, rfl, rfl, rfl, h2, r2⟩ := trodAll_cons r1
  obtain ⟨v3, vs3, d3, ds3, p3, q3, rfl, rfl, rfl, h3, r3⟩ := trodAll_cons r2
  obtain ⟨v4, vs4, d4, ds4, p4, q4, rfl, rfl, rfl, h4, r4⟩ := trodAll_cons r3
  obtain ⟨rfl, rfl, rfl⟩ := trodAll_nil r4
  obtain rfl : args = #[v0, v1, v2, v3, v4] := by cases args; simp_all
  obtain ⟨rfl, rfl⟩ := trodVars_none hV
  obtain ⟨b0, n0, m0, rfl⟩ := okWide_slice Try.underlying25 (hval 0 25 v0 rfl rfl)
  have k0 := h0
  have lt0 : ∀ x ∈ p0, x.block < W.heap.size := by obtain ⟨m, hm⟩ := k0; exact DataW.trod_lt m _ _ _ hm
  obtain ⟨l0, c0, hle0, hC0, g0⟩ : ∃ l c, l.length ≤ c ∧ Kd.C (Kd.int .i64) W b0 l.length l ∧ ((fun (l : List (Int)) => (∀ x ∈ l, (fun (n : Int) => (Lit.int .i64 n).wf = true) x) ∧ l.length ≤ 9223372036854775807) l) ∧ n0 = l.length ∧ m0 = c := by
    obtain ⟨fuel, hf⟩ := h0
    obtain ⟨l, ⟨A, c, hcs, hle, hC⟩, hg⟩ := (opens_slice Try.underlying25 (by kernel_rfl) (opens_int Try.underlying3)) enc W fuel _ _ hf
    simp only [Value.cells, List.cons.injEq, Value.slice.injEq, and_true] at hcs
    obtain ⟨rfl, rfl, rfl⟩ := hcs
    exact ⟨l, _, hle, hC, hg, rfl, rfl⟩
  obtain ⟨g0, rfl, rfl⟩ := g0
  clear h0
  obtain ⟨a1, rfl, rfl, rfl, w1⟩ := open_int Try.underlying3 (hval 1 3 v1 rfl rfl) h1
  obtain ⟨b2, n2, m2, rfl⟩ := okWide_slice Try.underlying26 (hval 2 26 v2 rfl rfl)
  have k2 := h2
  have lt2 : ∀ x ∈ p2, x.block < W.heap.size := by obtain ⟨m, hm⟩ := k2; exact DataW.trod_lt m _ _ _ hm
  obtain ⟨l2, c2, hle2, hC2, g2⟩ : ∃ l c, l.length ≤ c ∧ Kd.C (Kd.slice 3 (Kd.int .i64)) W b2 l.length l ∧ ((fun (l : List (List (Int))) => (∀ x ∈ l, (fun (l : List (Int)) => (∀ x ∈ l, (fun (n : Int) => (Lit.int .i64 n).wf = true) x) ∧ l.length ≤ 9223372036854775807) x) ∧ l.length ≤ 9223372036854775807) l) ∧ n2 = l.length ∧ m2 = c := by
    obtain ⟨fuel, hf⟩ := h2
    obtain ⟨l, ⟨A, c, hcs, hle, hC⟩, hg⟩ := (opens_slice Try.underlying26 (by kernel_rfl) (opens_slice Try.underlying25 (by kernel_rfl) (opens_int Try.underlying3))) enc W fuel _ _ hf
    simp only [Value.cells, List.cons.injEq, Value.slice.injEq, and_true] at hcs
    obtain ⟨rfl, rfl, rfl⟩ := hcs
    exact ⟨l, _, hle, hC, hg, rfl, rfl⟩
  obtain ⟨g2, rfl, rfl⟩ := g2
  clear h2
  obtain ⟨b3, n3, m3, rfl⟩ := okWide_slice Try.underlying26 (hval 3 26 v3 rfl rfl)
  have k3 := h3
  have lt3 : ∀ x ∈ p3, x.block < W.heap.size := by obtain ⟨m, hm⟩ := k3; exact DataW.trod_lt m _ _ _ hm
  obtain ⟨l3, c3, hle3, hC3, g3⟩ : ∃ l c, l.length ≤ c ∧ Kd.C (Kd.slice 3 (Kd.int .i64)) W b3 l.length l ∧ ((fun (l : List (List (Int))) => (∀ x ∈ l, (fun (l : List (Int)) => (∀ x ∈ l, (fun (n : Int) => (Lit.int .i64 n).wf = true) x) ∧ l.length ≤ 9223372036854775807) x) ∧ l.length ≤ 9223372036854775807) l) ∧ n3 = l.length ∧ m3 = c := by
    obtain ⟨fuel, hf⟩ := h3
    obtain ⟨l, ⟨A, c, hcs, hle, hC⟩, hg⟩ := (opens_slice Try.underlying26 (by kernel_rfl) (opens_slice Try.underlying25 (by kernel_rfl) (opens_int Try.underlying3))) enc W fuel _ _ hf
    simp only [Value.cells, List.cons.injEq, Value.slice.injEq, and_true] at hcs
    obtain ⟨rfl, rfl, rfl⟩ := hcs
    exact ⟨l, _, hle, hC, hg, rfl, rfl⟩
  obtain ⟨g3, rfl, rfl⟩ := g3
  clear h3
  obtain ⟨a4, rfl, rfl, rfl, w4⟩ := open_int Try.underlying3 (hval 4 3 v4 rfl rfl) h4
  clear hA0 hval0 hsz0 hval hcnd
  have hk := Ord.AgesOrder l0 a1 l2 l3 a4 g0 w1 g2 g3 w4
  refine (Ord.order_calls b0 m0 l0 a1 b2 m2 l2 b3 m3 l3 a4 true W hC0 hle0 hC2 hle2 hC3 hle3 hk).mono fun e W' ⟨he, bel⟩ => ?_
  subst he
  exact ⟨_, rfl, _, _, _, [], _, [], hW', trodAll_mk1 (shut_bool Try.underlying4 _), (trodAll_cons_mk (Below.trod laidOut (by kernel_rfl) (of_decide_eq_true (by kernel_rfl)) k0 bel lt0) (trodAll_cons_mk (shut_int Try.underlying3 w1) (trodAll_cons_mk (Below.trod laidOut (by kernel_rfl) (of_decide_eq_true (by kernel_rfl)) k2 bel lt2) (trodAll_cons_mk (Below.trod laidOut (by kernel_rfl) (of_decide_eq_true (by kernel_rfl)) k3 bel lt3) (trodAll_cons_mk (shut_int Try.underlying3 w4) trodAll_mk0))))), rfl, bel.frame _, fun h => by cases h⟩
theorem over : Rows.agesOrderRow.holds Try.pinned (OpenSpec.ofChange Rows.agesOrderSpec) :=
  OpenClaim.holds_of_wide 6 Try.f6 rfl rfl rfl rfl rfl rfl rfl ⟨rfl, rfl, rfl, rfl, rfl⟩ rfl rfl rfl rfl rfl (by kernel_rfl) Try.func6 (by kernel_rfl)
    (of_decide_eq_true (by kernel_rfl)) (by unfold Func.isWrapper; first | (rw [if_pos (by decide +kernel)]; kernel_rfl) | (rw [if_neg (by decide +kernel)]; exact ⟨rfl, rfl⟩))
    (fun os started H enc _ => lifted os started H enc)
theorem proved : Rows.AgesOrderSaid := over
end Go.Proofs.Ythkagdbabkkomaa.agesOrder
namespace Go.Proofs.Ythkagdbabkkomaa
/-- The row, under a short name, for the claim. -/
theorem agesOrder_holds : Rows.AgesOrderSaid := agesOrder.proved
end Go.Proofs.Ythkagdbabkkomaa
