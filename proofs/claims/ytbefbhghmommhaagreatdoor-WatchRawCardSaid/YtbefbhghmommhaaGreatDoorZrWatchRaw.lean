/- The row of WatchRaw: for every input the law returns true and leaves its arguments as they were. No conditions. -/
import Derived.Test.YtbefbhghmommhaaGreatDoorRows
import Derived.Test.YtbefbhghmommhaaGreatDoorZWr24
import Derived.Test.YtbefbhghmommhaaGreatDoorZWr25
import Derived.Test.YtbefbhghmommhaaGreatDoorTie
import Derived.Test.YtbefbhghmommhaaGreatDoorCards
import Derived.ChangeSame
import Derived.ChangeVars
import Derived.JoinedOf
import Derived.LaidLaws
import Derived.LaidHandle
import Derived.Stop.Joined
import Derived.SevenTiedAt
import Derived.WalkKit
import Derived.ProofKit
import Derived.OpenShut
import Derived.ShutString
import Derived.ChangeOld
import Derived.Below
import Derived.SizedLaws
import Derived.Lib.SmallJoins
import Derived.Carry
namespace Go.Proofs.YtbefbhghmommhaaGreatDoor.watchRaw
open Go.Deep Go.ChangeShapes Go.WideShapes Go.ChangeAt Go.RowKit Go.Joins Go.Proofs.YtbefbhghmommhaaGreatDoor.Opn Go.Proofs.YtbefbhghmommhaaGreatDoorW.PrintWords
open Go.ChangeMaps (open_string shut_string)
set_option linter.unusedVariables false
theorem own : ownKnob Tryz.prog.godebug = none := by kernel_rfl
theorem laidOut : laidOutB Tryz.prog = true := by kernel_rfl
/-- A world in which the listed variable reads as the card ties it. -/
noncomputable def laidWorld (os : Os) : World :=
  let w0 := World.holding Tryz.prog os ⟨#[], #[], []⟩
  { w0 with heap := w0.heap.modify 0 fun
      | .cells _ t frozen => .cells #[.iface 144 (.agg #[.pointer (some ⟨1, 108, none⟩)])] t frozen
      | o => o }
theorem laidWorld_met (os : Os) (args : Array Value) : laidMetH Tryz.prog Rows.watchRawRow.laid ((laidWorld os).forCall (fun _ _ => 0) ⟨#[], args, []⟩).memory :=
  laidMetH_of_parts (laidMet_nil _ _) (by kernel_rfl)
theorem et_ : Tryz.prog.globalNamed "errors.errorType" = some 0 := by kernel_rfl
theorem rt_ : (Tryz.prog.cutTypes.find? (·.1 == "internal/reflectlite.rtype")).map (·.2) = some 144 := by kernel_rfl
theorem oneRow_ : ((List.range 200).filter fun t => Tryz.prog.rowNamed t [101, 114, 114, 111, 114]) = [108] := by kernel_rfl
theorem size_ : Tryz.prog.types.size = 200 := by kernel_rfl
/-- What the condition gives a walk: the variable's one cell. -/
theorem gv_of_laid {W : World} (h : laidMetH Tryz.prog Rows.watchRawRow.laid W) : MWo.Gv W := by
  have h' : laidMet Tryz.prog [] W ∧ handlesMet Tryz.prog Rows.watchRawRow.laid W := h
  obtain ⟨name, u, ty, e1, e2, e3, e4, e5⟩ := h'.2 _ (List.mem_singleton.2 rfl)
  have en : name = [101, 114, 114, 111, 114] := (Option.some.inj e1).symm
  subst en
  obtain rfl := Option.some.inj (rt_.symm.trans e2)
  have hm : ty ∈ (List.range 200).filter fun t => Tryz.prog.rowNamed t [101, 114, 114, 111, 114] := List.mem_filter.2 ⟨List.mem_range.2 (by rw [← size_]; exact e3), e4⟩
  rw [oneRow_] at hm
  obtain rfl := List.mem_singleton.1 hm
  have hh : typeHandle Tryz.prog 108 = .pointer (some ⟨1, 108, none⟩) := by kernel_rfl
  rw [hh] at e5
  simpa [MWo.Gv] using World.var?_cell et_ e5 0
set_option maxRecDepth 100000 in
theorem lifted (os : Os) (started : os.Started) (H : Type) (enc : TypeId × Value → H) :
    ReturnsInHanded {} Tryz.checked os 3 .any (fun w args => (Rows.watchRawSpec.pre enc Tryz.prog Tryz.f3 Rows.watchRawRow.domain false w args ∧ laidMetH Tryz.prog Rows.watchRawRow.laid w) ∧ sizedMet enc Tryz.prog Tryz.f3 (OpenSpec.ofChange Rows.watchRawSpec) false w args) (Rows.watchRawSpec.post enc Tryz.prog Tryz.f3 false true false false) := by
  refine returnsInHanded_of_change_and (C := Tryz.checked) (X := fun w _ => laidMetH Tryz.prog Rows.watchRawRow.laid w) (fun _ _ _ hh h => h.of_heap hh) own started (by kernel_rfl) Tryz.func3
    (ChangeSpec.witness_at (enc := enc) (C := Tryz.checked) (os := os) (X := fun w _ => laidMetH Tryz.prog Rows.watchRawRow.laid w) false (laidWorld os) #[.agg #[.slice none 0 0, .slice none 0 0, .int .i64 0, .int .i64 0, .int .i64 0, .int .i64 0, .int .i64 0, .int .i64 0, .int .i64 0, .int .i64 0, .int .i64 0, .int .i64 0, .int .i64 0], .slice none 0 0] 8 rfl (by kernel_rfl) (by kernel_rfl) (by kernel_rfl) (by kernel_rfl) (by kernel_rfl) (laidWorld_met os _)) ?_
  intro W base args ds gs before hval0 hW hcnd hsz0 hL _
  have hval : ∀ (j : Nat) t v, Tryz.f3.params[j]? = some t → args[j]? = some v → Value.okWide Tryz.prog W .any base t v := hval0
  have hW' := hW
  obtain ⟨p, q, hA0, hV, rfl, hfz, hnd⟩ := hW
  have hA : DataW.TrodAll enc Tryz.prog W 0 (fun _ => true) true Tryz.f3.params.toList args.toList ds p := hA0
  rw [Tryz.params3] at hA hval
  obtain ⟨v0, vs0, d0, ds0, p0, q0, hargs, rfl, rfl, h0, r0⟩ := trodAll_cons hA
  obtain ⟨v1, vs1, d1, ds1, p1, q1, rfl, rfl, rfl, h1, r1⟩ := trodAll_cons r0
  obtain ⟨rfl, rfl, rfl⟩ := trodAll_nil r1
  obtain rfl : args = #[v0, v1] := by cases args; simp_all
  obtain ⟨rfl, rfl⟩ := trodVars_none hV
  obtain ⟨⟨cs0⟩, rfl, hz0⟩ := okWide_struct Tryz.underlying25 (hval 0 25 v0 rfl rfl)
  have k0 := h0
  have lt0 : ∀ x ∈ p0, x.block < W.heap.size := by obtain ⟨m, hm⟩ := k0; exact DataW.trod_lt m _ _ _ hm
  obtain ⟨fuel0, hf0⟩ := h0
  obtain ⟨CA, cc, CP, CB, cd, CQ, q2_, q3_, q4_, q5_, q6_, q7_, q8_, q9_, q10_, q11_, q12_, hcs0, hPl, hPC, hQl, hQC⟩ := open_config enc W fuel0 _ _ hf0
  simp only [Value.cells] at hcs0
  subst hcs0
  clear hf0 hz0
  obtain ⟨b1, n1, m1, rfl⟩ := okWide_slice Tryz.underlying26 (hval 1 26 v1 rfl rfl)
  have k1 := h1
  have lt1 : ∀ x ∈ p1, x.block < W.heap.size := by obtain ⟨m, hm⟩ := k1; exact DataW.trod_lt m _ _ _ hm
  obtain ⟨l1, c1, hle1, hC1, g1⟩ : ∃ l c, l.length ≤ c ∧ Kd.C MWo.k37 W b1 l.length l ∧ ((fun (l : List (MWo.S37)) => (∀ x ∈ l, (goodC) x) ∧ l.length ≤ 9223372036854775807) l) ∧ n1 = l.length ∧ m1 = c := by
    obtain ⟨fuel, hf⟩ := h1
    obtain ⟨l, ⟨A, c, hcs, hle, hC⟩, hg⟩ := (opens_slice Tryz.underlying26 (by kernel_rfl) opens_cell) enc W fuel _ _ hf
    simp only [Value.cells, List.cons.injEq, Value.slice.injEq, and_true] at hcs
    obtain ⟨rfl, rfl, rfl⟩ := hcs
    exact ⟨l, _, hle, hC, hg, rfl, rfl⟩
  obtain ⟨g1, rfl, rfl⟩ := g1
  clear h1
  have hGv := gv_of_laid hL
  clear hA0 hval0 hsz0 hval hcnd hL
  refine (MWo.raw_law CA cc CP CB cd CQ q2_ q3_ q4_ q5_ q6_ q7_ q8_ q9_ q10_ q11_ q12_ b1 m1 l1 W ⟨hPC, hPl, hQC, hQl⟩ hC1 hle1 hGv).mono fun e W' ⟨he, bel⟩ => ?_
  subst he
  exact ⟨_, rfl, _, _, _, [], _, [], hW', trodAll_mk1 (shut_bool Tryz.underlying4 _), (trodAll_cons_mk (Below.trod laidOut (by kernel_rfl) (of_decide_eq_true (by kernel_rfl)) k0 bel lt0) (trodAll_cons_mk (Below.trod laidOut (by kernel_rfl) (of_decide_eq_true (by kernel_rfl)) k1 bel lt1) trodAll_mk0)), rfl, bel.frame _, fun h => by cases h⟩
theorem over : Rows.watchRawRow.holds Tryz.pinned (OpenSpec.ofChange Rows.watchRawSpec) :=
  OpenClaim.holds_of_wide 3 Tryz.f3 rfl rfl rfl rfl rfl rfl rfl ⟨rfl, rfl, rfl, rfl, rfl⟩ rfl rfl rfl rfl rfl (by kernel_rfl) Tryz.func3 (by kernel_rfl)
    (of_decide_eq_true (by kernel_rfl)) (by unfold Func.isWrapper; first | (rw [if_pos (by decide +kernel)]; kernel_rfl) | (rw [if_neg (by decide +kernel)]; exact ⟨rfl, rfl⟩))
    (fun os started H enc _ => lifted os started H enc)
theorem proved : Rows.WatchRawSaid := over
end Go.Proofs.YtbefbhghmommhaaGreatDoor.watchRaw
namespace Go.Proofs.YtbefbhghmommhaaGreatDoor
/-- The card: the row, its one listed variable tied to the program's text. -/
theorem watchRaw_holds : Rows.WatchRawCardSaid :=
  Claim7.holds_tied_plain_at .later [] [.handle] true (true, "4b1139c0058da82ab54db3207ddf80af0545b3cce207cbf1f16621d98506e1b4") true
    watchRaw.proved (fun _ h => by cases h) (by kernel_rfl) (fun _ h => by cases h) watchRaw_row_tie rfl ⟨rfl, rfl⟩ (by kernel_rfl) rfl
    (fun f fn hf hfn => by
      obtain rfl : f = 3 := Option.some.inj ((show Tryz.prog.funcNamed "drumline/drumlinelaw28.WatchRaw" = some 3 by kernel_rfl).symm.trans hf) |>.symm
      obtain rfl : fn = Tryz.f3 := (Option.some.inj (Tryz.func3.symm.trans hfn)).symm
      exact ⟨by kernel_rfl, fun j t ht => by
        rw [Tryz.params3] at ht
        have hm : t ∈ [25, 26] := List.mem_of_getElem? (i := j) (by simpa using ht)
        simp only [List.mem_cons, List.not_mem_nil, or_false] at hm
        rcases hm with rfl | rfl
        · exact (show Tryz.prog.wantsStandIn 25 = false by kernel_rfl)
        · exact (show Tryz.prog.wantsStandIn 26 = false by kernel_rfl)⟩)
    (by kernel_rfl)
end Go.Proofs.YtbefbhghmommhaaGreatDoor
