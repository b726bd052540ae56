/- The row of WireReads: for every input the law returns true and leaves its arguments as they were. No conditions. -/
import Derived.Test.YthkagdbabkkomaaRows
import Derived.Test.YthkagdbabkkomaaPuWireReads
import Derived.Test.YthkagdbabkkomaaOpen
import Derived.WalkKit
import Derived.ProofKit
import Derived.OpenShut
import Derived.ShutString
import Derived.ChangeOld
import Derived.Below
import Derived.SizedLaws
import Derived.Lib.SmallJoins
import Derived.Carry
namespace Go.Proofs.Ythkagdbabkkomaa.wireReads
open Go.ChangeShapes Go.WideShapes Go.ChangeAt Go.RowKit Go.Joins Go.Proofs.Ythkagdbabkkomaa.Opn Go.Proofs.YthkagdbabkkomaaW.PrintWords
open Go.ChangeMaps (open_string shut_string)
set_option linter.unusedVariables false
theorem own : ownKnob Try.prog.godebug = none := by kernel_rfl
theorem laidOut : laidOutB Try.prog = true := by kernel_rfl
set_option maxRecDepth 100000 in
theorem lifted (os : Os) (started : os.Started) (H : Type) (enc : TypeId × Value → H) :
    ReturnsInHanded {} Try.checked os 13 .any (Rows.wireReadsSpec.pre6 enc Try.prog Try.f13 Rows.wireReadsRow.domain false) (Rows.wireReadsSpec.post enc Try.prog Try.f13 false true false false) := by
  refine returnsInHanded_of_change_sized (C := Try.checked) own started (by kernel_rfl) Try.func13
    (ChangeSpec.witness6 (enc := enc) (C := Try.checked) false ⟨#[], #[.slice none 0 0, .slice none 0 0], []⟩ 8 (by kernel_rfl) (by kernel_rfl) (by kernel_rfl) (by kernel_rfl)) ?_
  intro W base args ds gs before hval0 hW hcnd hsz0 _
  have hval : ∀ (j : Nat) t v, Try.f13.params[j]? = some t → args[j]? = some v → Value.okWide Try.prog W .any base t v := hval0
  have hW' := hW
  obtain ⟨p, q, hA0, hV, rfl, hfz, hnd⟩ := hW
  have hA : DataW.TrodAll enc Try.prog W 0 (fun _ => true) true Try.f13.params.toList args.toList ds p := hA0
  rw [Try.params13] at hA hval
  obtain ⟨v0, vs0, d0, ds0, p0, q0, hargs, rfl, rfl, h0, r0⟩ := trodAll_cons hA
  obtain ⟨v1, vs1, d1, ds1, p1, q1, rfl, rfl, rfl, h1, r1⟩ := trodAll_cons r0
  obtain ⟨rfl, rfl, rfl⟩ := trodAll_nil r1
  obtain rfl : args = #[v0, v1] := by cases args; simp_all
  obtain ⟨rfl, rfl⟩ := trodVars_none hV
  obtain ⟨b0, n0, m0, rfl⟩ := okWide_slice Try.underlying22 (hval 0 22 v0 rfl rfl)
  have k0 := h0
  have lt0 : ∀ x ∈ p0, x.block < W.heap.size := by obtain ⟨m, hm⟩ := k0; exact DataW.trod_lt m _ _ _ hm
  obtain ⟨l0, c0, hle0, hC0, g0⟩ : ∃ l c, l.length ≤ c ∧ Kd.C (Kd.int .u8) W b0 l.length l ∧ ((fun (l : List (Int)) => (∀ x ∈ l, (fun (n : Int) => (Lit.int .u8 n).wf = true) x) ∧ l.length ≤ 9223372036854775807) l) ∧ n0 = l.length ∧ m0 = c := by
    obtain ⟨fuel, hf⟩ := h0
    obtain ⟨l, ⟨A, c, hcs, hle, hC⟩, hg⟩ := (opens_slice Try.underlying22 (by kernel_rfl) (opens_int Try.underlying5)) enc W fuel _ _ hf
    simp only [Value.cells, List.cons.injEq, Value.slice.injEq, and_true] at hcs
    obtain ⟨rfl, rfl, rfl⟩ := hcs
    exact ⟨l, _, hle, hC, hg, rfl, rfl⟩
  obtain ⟨g0, rfl, rfl⟩ := g0
  clear h0
  obtain ⟨b1, n1, m1, rfl⟩ := okWide_slice Try.underlying50 (hval 1 50 v1 rfl rfl)
  have k1 := h1
  have lt1 : ∀ x ∈ p1, x.block < W.heap.size := by obtain ⟨m, hm⟩ := k1; exact DataW.trod_lt m _ _ _ hm
  obtain ⟨l1, c1, hle1, hC1, g1⟩ : ∃ l c, l.length ≤ c ∧ Kd.C Go.Proofs.Ythkagdbabkkomaa.HRd.deed W b1 l.length l ∧ ((fun (l : List (Int × Int)) => (∀ x ∈ l, (fun (_ : Int × Int) => True) x) ∧ l.length ≤ 9223372036854775807) l) ∧ n1 = l.length ∧ m1 = c := by
    obtain ⟨fuel, hf⟩ := h1
    obtain ⟨l, ⟨A, c, hcs, hle, hC⟩, hg⟩ := (opens_slice Try.underlying50 (by kernel_rfl) Go.Proofs.Ythkagdbabkkomaa.Pure.opens_deed) enc W fuel _ _ hf
    simp only [Value.cells, List.cons.injEq, Value.slice.injEq, and_true] at hcs
    obtain ⟨rfl, rfl, rfl⟩ := hcs
    exact ⟨l, _, hle, hC, hg, rfl, rfl⟩
  obtain ⟨g1, rfl, rfl⟩ := g1
  clear h1
  clear hA0 hval0 hsz0 hval hcnd
  have hk := Pure.WireReads l0 l1 g0 g1
  refine (Pure.reads_calls b0 m0 l0 b1 m1 l1 true W hC0 hle0 hC1 hle1 hk).mono fun e W' ⟨he, bel⟩ => ?_
  subst he
  exact ⟨_, rfl, _, _, _, [], _, [], hW', trodAll_mk1 (shut_bool Try.underlying4 _), (trodAll_cons_mk (Below.trod laidOut (by kernel_rfl) (of_decide_eq_true (by kernel_rfl)) k0 bel lt0) (trodAll_cons_mk (Below.trod laidOut (by kernel_rfl) (of_decide_eq_true (by kernel_rfl)) k1 bel lt1) trodAll_mk0)), rfl, bel.frame _, fun h => by cases h⟩
theorem over : Rows.wireReadsRow.holds Try.pinned (OpenSpec.ofChange Rows.wireReadsSpec) :=
  OpenClaim.holds_of_wide 13 Try.f13 rfl rfl rfl rfl rfl rfl rfl ⟨rfl, rfl, rfl, rfl, rfl⟩ rfl rfl rfl rfl rfl (by kernel_rfl) Try.func13 (by kernel_rfl)
    (of_decide_eq_true (by kernel_rfl)) (by unfold Func.isWrapper; first | (rw [if_pos (by decide +kernel)]; kernel_rfl) | (rw [if_neg (by decide +kernel)]; exact ⟨rfl, rfl⟩))
    (fun os started H enc _ => lifted os started H enc)
theorem proved : Rows.WireReadsSaid := over
end Go.Proofs.Ythkagdbabkkomaa.wireReads
namespace Go.Proofs.Ythkagdbabkkomaa
/-- The row, under a short name, for the claim. -/
theorem wireReads_holds : Rows.WireReadsSaid := wireReads.proved
end Go.Proofs.Ythkagdbabkkomaa
