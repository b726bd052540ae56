/- The row of WatchSkews: for every input the law returns true and leaves its arguments as they were. No conditions. -/
import Derived.Test.YtbefbhghmommhaaGreatDoorRows
import Derived.Test.YtbefbhghmommhaaGreatDoorZWb26
import Derived.Test.YtbefbhghmommhaaGreatDoorZWb27
import Derived.Test.YtbefbhghmommhaaGreatDoorTie
import Derived.Test.YtbefbhghmommhaaGreatDoorCards
import Derived.ChangeSame
import Derived.ChangeVars
import Derived.JoinedOf
import Derived.LaidLaws
import Derived.LaidHandle
import Derived.Stop.Joined
import Derived.SevenTiedAt
import Derived.WalkKit
import Derived.ProofKit
import Derived.OpenShut
import Derived.ShutString
import Derived.ChangeOld
import Derived.Below
import Derived.SizedLaws
import Derived.Lib.SmallJoins
import Derived.Carry
namespace Go.Proofs.YtbefbhghmommhaaGreatDoor.watchSkews
open Go.Deep Go.ChangeShapes Go.WideShapes Go.ChangeAt Go.RowKit Go.Joins Go.Proofs.YtbefbhghmommhaaGreatDoor.Opn Go.Proofs.YtbefbhghmommhaaGreatDoorW.PrintWords
open Go.ChangeMaps (open_string shut_string)
set_option linter.unusedVariables false
theorem own : ownKnob Tryz.prog.godebug = none := by kernel_rfl
theorem laidOut : laidOutB Tryz.prog = true := by kernel_rfl
/-- A world in which the listed variable reads as the card ties it. -/
noncomputable def laidWorld (os : Os) : World :=
  let w0 := World.holding Tryz.prog os ⟨#[], #[], []⟩
  { w0 with heap := w0.heap.modify 0 fun
      | .cells _ t frozen => .cells #[.iface 144 (.agg #[.pointer (some ⟨1, 108, none⟩)])] t frozen
      | o => o }
theorem laidWorld_met (os : Os) (args : Array Value) : laidMetH Tryz.prog Rows.watchSkewsRow.laid ((laidWorld os).forCall (fun _ _ => 0) ⟨#[], args, []⟩).memory :=
  laidMetH_of_parts (laidMet_nil _ _) (by kernel_rfl)
set_option maxRecDepth 100000 in
theorem lifted (os : Os) (started : os.Started) (H : Type) (enc : TypeId × Value → H) :
    ReturnsInHanded {} Tryz.checked os 4 .any (fun w args => (Rows.watchSkewsSpec.pre enc Tryz.prog Tryz.f4 Rows.watchSkewsRow.domain false w args ∧ laidMetH Tryz.prog Rows.watchSkewsRow.laid w) ∧ sizedMet enc Tryz.prog Tryz.f4 (OpenSpec.ofChange Rows.watchSkewsSpec) false w args) (Rows.watchSkewsSpec.post enc Tryz.prog Tryz.f4 false true false false) := by
  refine returnsInHanded_of_change_and (C := Tryz.checked) (X := fun w _ => laidMetH Tryz.prog Rows.watchSkewsRow.laid w) (fun _ _ _ hh h => h.of_heap hh) own started (by kernel_rfl) Tryz.func4
    (ChangeSpec.witness_at (enc := enc) (C := Tryz.checked) (os := os) (X := fun w _ => laidMetH Tryz.prog Rows.watchSkewsRow.laid w) false (laidWorld os) #[.int .i64 0, .int .u8 0, .agg #[.slice none 0 0, .bool false, .int .i64 0, .slice none 0 0], .agg #[.slice none 0 0, .bool false, .int .i64 0, .slice none 0 0]] 8 rfl (by kernel_rfl) (by kernel_rfl) (by kernel_rfl) (by kernel_rfl) (by kernel_rfl) (laidWorld_met os _)) ?_
  intro W base args ds gs before hval0 hW hcnd hsz0 hL _
  have hval : ∀ (j : Nat) t v, Tryz.f4.params[j]? = some t → args[j]? = some v → Value.okWide Tryz.prog W .any base t v := hval0
  have hW' := hW
  obtain ⟨p, q, hA0, hV, rfl, hfz, hnd⟩ := hW
  have hA : DataW.TrodAll enc Tryz.prog W 0 (fun _ => true) true Tryz.f4.params.toList args.toList ds p := hA0
  rw [Tryz.params4] at hA hval
  obtain ⟨v0, vs0, d0, ds0, p0, q0, hargs, rfl, rfl, h0, r0⟩ := trodAll_cons hA
  obtain ⟨v1, vs1, d1, ds1, p1, q1, rfl, rfl, rfl, h1, r1⟩ := trodAll_cons r0
  obtain ⟨v2, vs2, d2, ds2, p2, q2, rfl, rfl, rfl, h2, r2⟩ := trodAll_cons r1
  obtain ⟨v3, vs3, d3, ds3, p3, q3, rfl, rfl, rfl, h3, r3⟩ := trodAll_cons r2
  obtain ⟨rfl, rfl, rfl⟩ := trodAll_nil r3
  obtain rfl : args = #[v0, v1, v2, v3] := by cases args; simp_all
  obtain ⟨rfl, rfl⟩ := trodVars_none hV
  obtain ⟨a0, rfl, rfl, rfl, w0⟩ := open_int Tryz.underlying3 (hval 0 3 v0 rfl rfl) h0
  obtain ⟨a1, rfl, rfl, rfl, w1⟩ := open_int Tryz.underlying5 (hval 1 5 v1 rfl rfl) h1
  obtain ⟨⟨cs2⟩, rfl, hz2⟩ := okWide_struct Tryz.underlying37 (hval 2 37 v2 rfl rfl)
  have k2 := h2
  have lt2 : ∀ x ∈ p2, x.block < W.heap.size := by obtain ⟨m, hm⟩ := k2; exact DataW.trod_lt m _ _ _ hm
  obtain ⟨x2, hK2, g2⟩ : ∃ x, MWo.k37.K W x cs2 ∧ goodC x := by
    obtain ⟨fuel, hf⟩ := h2
    exact opens_cell enc W fuel _ _ hf
  obtain ⟨A2, c2, B2, d2, rfl, hle2, hC2, hle32, hC32⟩ := MWo.k37_open hK2
  clear h2 hz2 hK2
  obtain ⟨⟨cs3⟩, rfl, hz3⟩ := okWide_struct Tryz.underlying37 (hval 3 37 v3 rfl rfl)
  have k3 := h3
  have lt3 : ∀ x ∈ p3, x.block < W.heap.size := by obtain ⟨m, hm⟩ := k3; exact DataW.trod_lt m _ _ _ hm
  obtain ⟨x3, hK3, g3⟩ : ∃ x, MWo.k37.K W x cs3 ∧ goodC x := by
    obtain ⟨fuel, hf⟩ := h3
    exact opens_cell enc W fuel _ _ hf
  obtain ⟨A3, c3, B3, d3, rfl, hle3, hC3, hle33, hC33⟩ := MWo.k37_open hK3
  clear h3 hz3 hK3
  clear hA0 hval0 hsz0 hval hcnd hL
  refine (MWo.skews_walk a0 a1 x2 x3 A2 c2 B2 d2 A3 c3 B3 d3 W ⟨hC2, hle2, hC32, hle32⟩ ⟨hC3, hle3, hC33, hle33⟩ (MWo.byte_bd w1)).mono fun e W' ⟨he, bel⟩ => ?_
  subst he
  exact ⟨_, rfl, _, _, _, [], _, [], hW', trodAll_mk1 (shut_bool Tryz.underlying4 _), (trodAll_cons_mk (shut_int Tryz.underlying3 w0) (trodAll_cons_mk (shut_int Tryz.underlying5 w1) (trodAll_cons_mk (Below.trod laidOut (by kernel_rfl) (of_decide_eq_true (by kernel_rfl)) k2 bel lt2) (trodAll_cons_mk (Below.trod laidOut (by kernel_rfl) (of_decide_eq_true (by kernel_rfl)) k3 bel lt3) trodAll_mk0)))), rfl, bel.frame _, fun h => by cases h⟩
theorem over : Rows.watchSkewsRow.holds Tryz.pinned (OpenSpec.ofChange Rows.watchSkewsSpec) :=
  OpenClaim.holds_of_wide 4 Tryz.f4 rfl rfl rfl rfl rfl rfl rfl ⟨rfl, rfl, rfl, rfl, rfl⟩ rfl rfl rfl rfl rfl (by kernel_rfl) Tryz.func4 (by kernel_rfl)
    (of_decide_eq_true (by kernel_rfl)) (by unfold Func.isWrapper; first | (rw [if_pos (by decide +kernel)]; kernel_rfl) | (rw [if_neg (by decide +kernel)]; exact ⟨rfl, rfl⟩))
    (fun os started H enc _ => lifted os started H enc)
theorem proved : Rows.WatchSkewsSaid := over
end Go.Proofs.YtbefbhghmommhaaGreatDoor.watchSkews
namespace Go.Proofs.YtbefbhghmommhaaGreatDoor
/-- The card: the row, its one listed variable tied to the program's text. -/
theorem watchSkews_holds : Rows.WatchSkewsCardSaid :=
  Claim7.holds_tied_plain_at .later [] [.handle] true (true, "4b1139c0058da82ab54db3207ddf80af0545b3cce207cbf1f16621d98506e1b4") true
    watchSkews.proved (fun _ h => by cases h) (by kernel_rfl) (fun _ h => by cases h) watchSkews_row_tie rfl ⟨rfl, rfl⟩ (by kernel_rfl) rfl
    (fun f fn hf hfn => by
      obtain rfl : f = 4 := Option.some.inj ((show Tryz.prog.funcNamed "drumline/drumlinelaw28.WatchSkews" = some 4 by kernel_rfl).symm.trans hf) |>.symm
      obtain rfl : fn = Tryz.f4 := (Option.some.inj (Tryz.func4.symm.trans hfn)).symm
      exact ⟨by kernel_rfl, fun j t ht => by
        rw [Tryz.params4] at ht
        have hm : t ∈ [3, 5, 37, 37] := List.mem_of_getElem? (i := j) (by simpa using ht)
        simp only [List.mem_cons, List.not_mem_nil, or_false] at hm
        rcases hm with rfl | rfl | rfl | rfl
        · exact (show Tryz.prog.wantsStandIn 3 = false by kernel_rfl)
        · exact (show Tryz.prog.wantsStandIn 5 = false by kernel_rfl)
        · exact (show Tryz.prog.wantsStandIn 37 = false by kernel_rfl)
        · exact (show Tryz.prog.wantsStandIn 37 = false by kernel_rfl)⟩)
    (by kernel_rfl)
end Go.Proofs.YtbefbhghmommhaaGreatDoor
