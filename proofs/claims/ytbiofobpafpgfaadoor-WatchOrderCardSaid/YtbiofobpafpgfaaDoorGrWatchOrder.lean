/- The row of WatchOrder: for every input the law returns true and leaves its arguments as they were. No conditions. -/
import Derived.Test.YtbiofobpafpgfaaDoorRows
import Derived.Test.YtbiofobpafpgfaaDoorPuWo
import Derived.Test.YtbiofobpafpgfaaDoorOpenW
import Derived.Test.YtbiofobpafpgfaaDoorTie
import Derived.Test.YtbiofobpafpgfaaDoorCards
import Derived.ChangeSame
import Derived.ChangeVars
import Derived.JoinedOf
import Derived.LaidLaws
import Derived.LaidHandle
import Derived.Stop.Joined
import Derived.SevenTiedAt
import Derived.WalkKit
import Derived.ProofKit
import Derived.OpenShut
import Derived.ShutString
import Derived.ChangeOld
import Derived.Below
import Derived.SizedLaws
import Derived.Lib.SmallJoins
import Derived.Carry
namespace Go.Proofs.YtbiofobpafpgfaaDoor.watchOrder
open Go.Deep Go.ChangeShapes Go.WideShapes Go.ChangeAt Go.RowKit Go.Joins Go.Proofs.YtbiofobpafpgfaaDoor.Opn Go.Proofs.YtbiofobpafpgfaaDoorW.PrintWords
open Go.ChangeMaps (open_string shut_string)
set_option linter.unusedVariables false
theorem own : ownKnob Tryd.prog.godebug = none := by kernel_rfl
theorem laidOut : laidOutB Tryd.prog = true := by kernel_rfl
/-- A world in which the listed variable reads as the card ties it. -/
noncomputable def laidWorld (os : Os) : World :=
  let w0 := World.holding Tryd.prog os ⟨#[], #[], []⟩
  { w0 with heap := w0.heap.modify 0 fun
      | .cells _ t frozen => .cells #[.iface 125 (.agg #[.pointer (some ⟨1, 85, none⟩)])] t frozen
      | o => o }
theorem laidWorld_met (os : Os) (args : Array Value) : laidMetH Tryd.prog Rows.watchOrderRow.laid ((laidWorld os).forCall (fun _ _ => 0) ⟨#[], args, []⟩).memory :=
  laidMetH_of_parts (laidMet_nil _ _) (by kernel_rfl)
set_option maxRecDepth 100000 in
theorem lifted (os : Os) (started : os.Started) (H : Type) (enc : TypeId × Value → H) :
    ReturnsInHanded {} Tryd.checked os 3 .any (fun w args => (Rows.watchOrderSpec.pre enc Tryd.prog Tryd.f3 Rows.watchOrderRow.domain false w args ∧ laidMetH Tryd.prog Rows.watchOrderRow.laid w) ∧ sizedMet enc Tryd.prog Tryd.f3 (OpenSpec.ofChange Rows.watchOrderSpec) false w args) (Rows.watchOrderSpec.post enc Tryd.prog Tryd.f3 false true false false) := by
  refine returnsInHanded_of_change_and (C := Tryd.checked) (X := fun w _ => laidMetH Tryd.prog Rows.watchOrderRow.laid w) (fun _ _ _ hh h => h.of_heap hh) own started (by kernel_rfl) Tryd.func3
    (ChangeSpec.witness_at (enc := enc) (C := Tryd.checked) (os := os) (X := fun w _ => laidMetH Tryd.prog Rows.watchOrderRow.laid w) false (laidWorld os) #[.slice none 0 0, .slice none 0 0] 8 rfl (by kernel_rfl) (by kernel_rfl) (by kernel_rfl) (by kernel_rfl) (by kernel_rfl) (laidWorld_met os _)) ?_
  intro W base args ds gs before hval0 hW hcnd hsz0 hL _
  have hval : ∀ (j : Nat) t v, Tryd.f3.params[j]? = some t → args[j]? = some v → Value.okWide Tryd.prog W .any base t v := hval0
  have hW' := hW
  obtain ⟨p, q, hA0, hV, rfl, hfz, hnd⟩ := hW
  have hA : DataW.TrodAll enc Tryd.prog W 0 (fun _ => true) true Tryd.f3.params.toList args.toList ds p := hA0
  rw [Tryd.params3] at hA hval
  obtain ⟨v0, vs0, d0, ds0, p0, q0, hargs, rfl, rfl, h0, r0⟩ := trodAll_cons hA
  obtain ⟨v1, vs1, d1, ds1, p1, q1, rfl, rfl, rfl, h1, r1⟩ := trodAll_cons r0
  obtain ⟨rfl, rfl, rfl⟩ := trodAll_nil r1
  obtain rfl : args = #[v0, v1] := by cases args; simp_all
  obtain ⟨rfl, rfl⟩ := trodVars_none hV
  have hszz : (DataW.weightsEach Tryd.prog [22, 23] [d0, d1]).all (· ≤ reachBytes) = true := hsz0
  have hw0 : ∀ n ∈ d0.weights Tryd.prog 22, n ≤ reachBytes := fun n hn => of_decide_eq_true (List.all_eq_true.1 hszz _ (DataW.weights_mem_each (j := 0) rfl rfl n hn))
  have hw1 : ∀ n ∈ d1.weights Tryd.prog 23, n ≤ reachBytes := fun n hn => of_decide_eq_true (List.all_eq_true.1 hszz _ (DataW.weights_mem_each (j := 1) rfl rfl n hn))
  obtain ⟨b0, n0, m0, rfl⟩ := okWide_slice Tryd.underlying22 (hval 0 22 v0 rfl rfl)
  have k0 := h0
  have lt0 : ∀ x ∈ p0, x.block < W.heap.size := by obtain ⟨m, hm⟩ := k0; exact DataW.trod_lt m _ _ _ hm
  obtain ⟨l0, c0, hle0, hC0, g0⟩ : ∃ l c, l.length ≤ c ∧ Kd.C MWo.k52 W b0 l.length l ∧ ((fun (l : List (MWo.S52)) => (∀ x ∈ l, (goodG) x) ∧ l.length ≤ 9223372036854775807) l) ∧ n0 = l.length ∧ m0 = c := by
    obtain ⟨fuel, hf⟩ := h0
    obtain ⟨l, ⟨A, c, hcs, hle, hC⟩, hg⟩ := (opensW_slice Tryd.underlying22 (by kernel_rfl) opens_got) enc W fuel _ _ hf hw0
    simp only [Value.cells, List.cons.injEq, Value.slice.injEq, and_true] at hcs
    obtain ⟨rfl, rfl, rfl⟩ := hcs
    exact ⟨l, _, hle, hC, ⟨hg.1, hg.2.1⟩, rfl, rfl⟩
  obtain ⟨g0, rfl, rfl⟩ := g0
  clear h0
  obtain ⟨b1, n1, m1, rfl⟩ := okWide_slice Tryd.underlying23 (hval 1 23 v1 rfl rfl)
  have k1 := h1
  have lt1 : ∀ x ∈ p1, x.block < W.heap.size := by obtain ⟨m, hm⟩ := k1; exact DataW.trod_lt m _ _ _ hm
  obtain ⟨l1, c1, hle1, hC1, g1⟩ : ∃ l c, l.length ≤ c ∧ Kd.C MWo.itk W b1 l.length l ∧ ((fun (l : List (MWo.Itm)) => (∀ x ∈ l, (goodI) x) ∧ l.length ≤ 9223372036854775807) l) ∧ n1 = l.length ∧ m1 = c := by
    obtain ⟨fuel, hf⟩ := h1
    obtain ⟨l, ⟨A, c, hcs, hle, hC⟩, hg⟩ := (opensW_slice Tryd.underlying23 (by kernel_rfl) opens_item) enc W fuel _ _ hf hw1
    simp only [Value.cells, List.cons.injEq, Value.slice.injEq, and_true] at hcs
    obtain ⟨rfl, rfl, rfl⟩ := hcs
    exact ⟨l, _, hle, hC, ⟨hg.1, hg.2.1⟩, rfl, rfl⟩
  obtain ⟨g1, rfl, rfl⟩ := g1
  clear h1
  clear hA0 hval0 hsz0 hszz hw0 hw1 hval hcnd hL
  have hk : ((∀ y ∈ l0, goodG y) ∧ (∀ y ∈ l1, goodI y)) ∧ true = true := ⟨⟨fun y hy => g0.1 y hy, fun y hy => g1.1 y hy⟩, rfl⟩
  refine (MWo.law_calls b0 m0 l0 b1 m1 l1 true W hC0 hle0 hC1 hle1 hk).mono fun e W' ⟨he, bel⟩ => ?_
  subst he
  exact ⟨_, rfl, _, _, _, [], _, [], hW', trodAll_mk1 (shut_bool Tryd.underlying4 _), (trodAll_cons_mk (Below.trod laidOut (by kernel_rfl) (of_decide_eq_true (by kernel_rfl)) k0 bel lt0) (trodAll_cons_mk (Below.trod laidOut (by kernel_rfl) (of_decide_eq_true (by kernel_rfl)) k1 bel lt1) trodAll_mk0)), rfl, bel.frame _, fun h => by cases h⟩
theorem over : Rows.watchOrderRow.holds Tryd.pinned (OpenSpec.ofChange Rows.watchOrderSpec) :=
  OpenClaim.holds_of_wide 3 Tryd.f3 rfl rfl rfl rfl rfl rfl rfl ⟨rfl, rfl, rfl, rfl, rfl⟩ rfl rfl rfl rfl rfl (by kernel_rfl) Tryd.func3 (by kernel_rfl)
    (of_decide_eq_true (by kernel_rfl)) (by unfold Func.isWrapper; first | (rw [if_pos (by decide +kernel)]; kernel_rfl) | (rw [if_neg (by decide +kernel)]; exact ⟨rfl, rfl⟩))
    (fun os started H enc _ => lifted os started H enc)
theorem proved : Rows.WatchOrderSaid := over
end Go.Proofs.YtbiofobpafpgfaaDoor.watchOrder
namespace Go.Proofs.YtbiofobpafpgfaaDoor
/-- The card: the row, its one listed variable tied to the program's text. -/
theorem watchOrder_holds : Rows.WatchOrderCardSaid :=
  Claim7.holds_tied_plain_at .later [] [.handle] true (true, "fbc9d5774ba926c13ab488bceb047a4e93cb731dfb7871611e59869251ea1f97") true
    watchOrder.proved (fun _ h => by cases h) (by kernel_rfl) (fun _ h => by cases h) watchOrder_row_tie rfl ⟨rfl, rfl⟩ (by kernel_rfl) rfl
    (fun f fn hf hfn => by
      obtain rfl : f = 3 := Option.some.inj ((show Tryd.prog.funcNamed "drumline/drumlinelaw28.WatchOrder" = some 3 by kernel_rfl).symm.trans hf) |>.symm
      obtain rfl : fn = Tryd.f3 := (Option.some.inj (Tryd.func3.symm.trans hfn)).symm
      exact ⟨by kernel_rfl, fun j t ht => by
        rw [Tryd.params3] at ht
        have hm : t ∈ [22, 23] := List.mem_of_getElem? (i := j) (by simpa using ht)
        simp only [List.mem_cons, List.not_mem_nil, or_false] at hm
        rcases hm with rfl | rfl
        · exact (show Tryd.prog.wantsStandIn 22 = false by kernel_rfl)
        · exact (show Tryd.prog.wantsStandIn 23 = false by kernel_rfl)⟩)
    (by kernel_rfl)
end Go.Proofs.YtbiofobpafpgfaaDoor
