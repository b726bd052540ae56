/- The row of FrameSealed: for every input the law returns true and leaves its arguments as they were. No conditions. -/
import Derived.Test.YtaaifdclojkdmaaGreatDoorRows
import Derived.Test.YtaaifdclojkdmaaGreatDoorZFz36
import Derived.Test.YtaaifdclojkdmaaGreatDoorZFz37
import Derived.Test.YtaaifdclojkdmaaGreatDoorZFz35
import Derived.Test.YtaaifdclojkdmaaGreatDoorTie
import Derived.Test.YtaaifdclojkdmaaGreatDoorCards
import Derived.ChangeSame
import Derived.ChangeVars
import Derived.JoinedOf
import Derived.LaidLaws
import Derived.LaidHandle
import Derived.Stop.Joined
import Derived.SevenTiedAt
import Derived.WalkKit
import Derived.ProofKit
import Derived.OpenShut
import Derived.ShutString
import Derived.ChangeOld
import Derived.Below
import Derived.SizedLaws
import Derived.Lib.SmallJoins
import Derived.Carry
namespace Go.Proofs.YtaaifdclojkdmaaGreatDoor.frameSealed
open Go.Deep Go.ChangeShapes Go.WideShapes Go.ChangeAt Go.RowKit Go.Joins Go.Proofs.YtaaifdclojkdmaaGreatDoor.Opn Go.Proofs.YtaaifdclojkdmaaGreatDoorW.PrintWords
open Go.ChangeMaps (open_string shut_string)
set_option linter.unusedVariables false
theorem own : ownKnob Tryz.prog.godebug = none := by kernel_rfl
theorem laidOut : laidOutB Tryz.prog = true := by kernel_rfl
/-- A world in which the listed variable reads as the card ties it. -/
noncomputable def laidWorld (os : Os) : World :=
  let w0 := World.holding Tryz.prog os ⟨#[], #[], []⟩
  { w0 with heap := w0.heap.modify 0 fun
      | .cells _ t frozen => .cells #[.iface 120 (.agg #[.pointer (some ⟨1, 43, none⟩)])] t frozen
      | o => o }
theorem laidWorld_met (os : Os) (args : Array Value) : laidMetH Tryz.prog Rows.frameSealedRow.laid ((laidWorld os).forCall (fun _ _ => 0) ⟨#[], args, []⟩).memory :=
  laidMetH_of_parts (laidMet_nil _ _) (by kernel_rfl)
theorem et_ : Tryz.prog.globalNamed "errors.errorType" = some 0 := by kernel_rfl
theorem rt_ : (Tryz.prog.cutTypes.find? (·.1 == "internal/reflectlite.rtype")).map (·.2) = some 120 := by kernel_rfl
theorem oneRow_ : ((List.range 168).filter fun t => Tryz.prog.rowNamed t [101, 114, 114, 111, 114]) = [43] := by kernel_rfl
theorem size_ : Tryz.prog.types.size = 168 := by kernel_rfl
/-- What the condition gives a walk: the variable's one cell. -/
theorem gv_of_laid {W : World} (h : laidMetH Tryz.prog Rows.frameSealedRow.laid W) : MFr.Gv W := by
  have h' : laidMet Tryz.prog [] W ∧ handlesMet Tryz.prog Rows.frameSealedRow.laid W := h
  obtain ⟨name, u, ty, e1, e2, e3, e4, e5⟩ := h'.2 _ (List.mem_singleton.2 rfl)
  have en : name = [101, 114, 114, 111, 114] := (Option.some.inj e1).symm
  subst en
  obtain rfl := Option.some.inj (rt_.symm.trans e2)
  have hm : ty ∈ (List.range 168).filter fun t => Tryz.prog.rowNamed t [101, 114, 114, 111, 114] := List.mem_filter.2 ⟨List.mem_range.2 (by rw [← size_]; exact e3), e4⟩
  rw [oneRow_] at hm
  obtain rfl := List.mem_singleton.1 hm
  have hh : typeHandle Tryz.prog 43 = .pointer (some ⟨1, 43, none⟩) := by kernel_rfl
  rw [hh] at e5
  simpa [MFr.Gv] using World.var?_cell et_ e5 0
set_option maxRecDepth 100000 in
theorem lifted (os : Os) (started : os.Started) (H : Type) (enc : TypeId × Value → H) :
    ReturnsInHanded {} Tryz.checked os 4 .any (fun w args => (Rows.frameSealedSpec.pre enc Tryz.prog Tryz.f4 Rows.frameSealedRow.domain false w args ∧ laidMetH Tryz.prog Rows.frameSealedRow.laid w) ∧ sizedMet enc Tryz.prog Tryz.f4 (OpenSpec.ofChange Rows.frameSealedSpec) false w args) (Rows.frameSealedSpec.post enc Tryz.prog Tryz.f4 false true false false) := by
  refine returnsInHanded_of_change_and (C := Tryz.checked) (X := fun w _ => laidMetH Tryz.prog Rows.frameSealedRow.laid w) (fun _ _ _ hh h => h.of_heap hh) own started (by kernel_rfl) Tryz.func4
    (ChangeSpec.witness_at (enc := enc) (C := Tryz.checked) (os := os) (X := fun w _ => laidMetH Tryz.prog Rows.frameSealedRow.laid w) false (laidWorld os) #[.slice none 0 0] 8 rfl (by kernel_rfl) (by kernel_rfl) (by kernel_rfl) (by kernel_rfl) (by kernel_rfl) (laidWorld_met os _)) ?_
  intro W base args ds gs before hval0 hW hcnd hsz0 hL _
  have hval : ∀ (j : Nat) t v, Tryz.f4.params[j]? = some t → args[j]? = some v → Value.okWide Tryz.prog W .any base t v := hval0
  have hW' := hW
  obtain ⟨p, q, hA0, hV, rfl, hfz, hnd⟩ := hW
  have hA : DataW.TrodAll enc Tryz.prog W 0 (fun _ => true) true Tryz.f4.params.toList args.toList ds p := hA0
  rw [Tryz.params4] at hA hval
  obtain ⟨v0, vs0, d0, ds0, p0, q0, hargs, rfl, rfl, h0, r0⟩ := trodAll_cons hA
  obtain ⟨rfl, rfl, rfl⟩ := trodAll_nil r0
  obtain rfl : args = #[v0] := by cases args; simp_all
  obtain ⟨rfl, rfl⟩ := trodVars_none hV
  obtain ⟨b0, n0, m0, rfl⟩ := okWide_slice Tryz.underlying22 (hval 0 22 v0 rfl rfl)
  have k0 := h0
  have lt0 : ∀ x ∈ p0, x.block < W.heap.size := by obtain ⟨m, hm⟩ := k0; exact DataW.trod_lt m _ _ _ hm
  obtain ⟨l0, c0, hle0, hC0, g0⟩ : ∃ l c, l.length ≤ c ∧ Kd.C (Kd.int .u8) W b0 l.length l ∧ ((fun (l : List (Int)) => (∀ x ∈ l, (fun (n : Int) => (Lit.int .u8 n).wf = true) x) ∧ l.length ≤ 9223372036854775807) l) ∧ n0 = l.length ∧ m0 = c := by
    obtain ⟨fuel, hf⟩ := h0
    obtain ⟨l, ⟨A, c, hcs, hle, hC⟩, hg⟩ := (opens_slice Tryz.underlying22 (by kernel_rfl) (opens_int Tryz.underlying5)) enc W fuel _ _ hf
    simp only [Value.cells, List.cons.injEq, Value.slice.injEq, and_true] at hcs
    obtain ⟨rfl, rfl, rfl⟩ := hcs
    exact ⟨l, _, hle, hC, hg, rfl, rfl⟩
  obtain ⟨g0, rfl, rfl⟩ := g0
  clear h0
  have hGv := gv_of_laid hL
  clear hA0 hval0 hsz0 hval hcnd hL
  obtain ⟨k, hk⟩ := (MFr.FrameSealed_   l0 (MFr.wfb g0.1)).some_
  refine (MFr.drumlinelaw4_FrameSealed.calls k b0 m0 l0 true W hC0 hle0 hk hGv).mono fun e W' ⟨he, bel⟩ => ?_
  subst he
  exact ⟨_, rfl, _, _, _, [], _, [], hW', trodAll_mk1 (shut_bool Tryz.underlying4 _), (trodAll_cons_mk (Below.trod laidOut (by kernel_rfl) (of_decide_eq_true (by kernel_rfl)) k0 bel lt0) trodAll_mk0), rfl, bel.frame _, fun h => by cases h⟩
theorem over : Rows.frameSealedRow.holds Tryz.pinned (OpenSpec.ofChange Rows.frameSealedSpec) :=
  OpenClaim.holds_of_wide 4 Tryz.f4 rfl rfl rfl rfl rfl rfl rfl ⟨rfl, rfl, rfl, rfl, rfl⟩ rfl rfl rfl rfl rfl (by kernel_rfl) Tryz.func4 (by kernel_rfl)
    (of_decide_eq_true (by kernel_rfl)) (by unfold Func.isWrapper; first | (rw [if_pos (by decide +kernel)]; kernel_rfl) | (rw [if_neg (by decide +kernel)]; exact ⟨rfl, rfl⟩))
    (fun os started H enc _ => lifted os started H enc)
theorem proved : Rows.FrameSealedSaid := over
end Go.Proofs.YtaaifdclojkdmaaGreatDoor.frameSealed
namespace Go.Proofs.YtaaifdclojkdmaaGreatDoor
/-- The card: the row, its one listed variable tied to the program's text. -/
theorem frameSealed_holds : Rows.FrameSealedCardSaid :=
  Claim7.holds_tied_plain_at .later [] [.handle] true (true, "a342f1434b76ab051945d57519797fa830aac0ca3c0180b1394f607d2ee4aa50") true
    frameSealed.proved (fun _ h => by cases h) (by kernel_rfl) (fun _ h => by cases h) frameSealed_row_tie rfl ⟨rfl, rfl⟩ (by kernel_rfl) rfl
    (fun f fn hf hfn => by
      obtain rfl : f = 4 := Option.some.inj ((show Tryz.prog.funcNamed "drumline/drumlinelaw4.FrameSealed" = some 4 by kernel_rfl).symm.trans hf) |>.symm
      obtain rfl : fn = Tryz.f4 := (Option.some.inj (Tryz.func4.symm.trans hfn)).symm
      exact ⟨by kernel_rfl, fun j t ht => by
        rw [Tryz.params4] at ht
        have hm : t ∈ [22] := List.mem_of_getElem? (i := j) (by simpa using ht)
        simp only [List.mem_cons, List.not_mem_nil, or_false] at hm
        rcases hm with rfl
        · exact (show Tryz.prog.wantsStandIn 22 = false by kernel_rfl)⟩)
    (by kernel_rfl)
end Go.Proofs.YtaaifdclojkdmaaGreatDoor
