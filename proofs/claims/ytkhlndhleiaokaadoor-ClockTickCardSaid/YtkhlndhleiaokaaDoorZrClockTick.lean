/- The row of ClockTick: for every input the law returns true and leaves its arguments as they were. No conditions. -/
import Derived.Test.YtkhlndhleiaokaaDoorRows
import Derived.Test.YtkhlndhleiaokaaDoorZClockTick9
import Derived.Test.YtkhlndhleiaokaaDoorTie
import Derived.Test.YtkhlndhleiaokaaDoorCards
import Derived.ChangeSame
import Derived.ChangeVars
import Derived.JoinedOf
import Derived.LaidLaws
import Derived.LaidHandle
import Derived.Stop.Joined
import Derived.SevenTiedAt
import Derived.WalkKit
import Derived.ProofKit
import Derived.OpenShut
import Derived.ShutString
import Derived.ChangeOld
import Derived.Below
import Derived.SizedLaws
namespace Go.Proofs.YtkhlndhleiaokaaDoor.clockTick
open Go.ChangeShapes Go.WideShapes Go.ChangeAt Go.RowKit
open Go.ChangeMaps (open_string shut_string)
set_option linter.unusedVariables false
/-- An array of two integers, opened and shut. -/
theorem open_two {H : Type} {enc : TypeId × Value → H} {P : Program} {w : World} {base b0 : Nat} {spare : Nat → Bool} {held : Bool} {r : Reach} {t e : TypeId} {k : IntKind} {v : Value} {d : DataW H} {ps : List MemPlace}
    (ht : P.underlying t = some (.array 2 e)) (he : P.underlying e = some (.int k)) (hc : P.cellsOf t = 2) (h1 : P.cellsOf e = 1) (hval : Value.okWide P w r b0 t v) (hd : DataW.Trod enc P w base spare held t v d ps) :
    ∃ a b, v = .agg #[.int k a, .int k b] ∧ d = .agg [.lit (.int k a), .lit (.int k b)] ∧ ps = [] ∧ (Lit.int k a).wf = true ∧ (Lit.int k b).wf = true := by
  simp only [Value.okWide, ht] at hval
  obtain ⟨cs, rfl, hn, _⟩ := hval
  obtain ⟨fuel, hf⟩ := hd
  obtain ⟨xs, m, rfl, hx, hl, hxl, hel⟩ := DataW.trod_array ht hf
  obtain ⟨x, y, rfl⟩ : ∃ x y, xs = [x, y] := by
    match xs, hxl with
    | [x, y], _ => exact ⟨x, y, rfl⟩
  obtain ⟨u, v, hcs⟩ : ∃ u v, cs.toList = [u, v] := by
    have hz : cs.toList.length = 2 := by simp [hn, hc]
    match hq : cs.toList, hz with
    | [u, v], _ => exact ⟨u, v, rfl⟩
  obtain rfl : cs = #[u, v] := by cases cs; simp_all
  have e0 := hel 0 (by omega)
  have e1 := hel 1 (by omega)
  rw [h1] at e0 e1
  simp [Value.cells] at e0 e1
  obtain ⟨a, ha, ra, wa⟩ := DataW.trod_int he e0
  obtain ⟨b, hb, rb, wb⟩ := DataW.trod_int he e1
  simp at ha hb
  subst ha hb ra rb
  simp only [Prod.mk.injEq] at hx
  exact ⟨a, b, rfl, by rw [hx.1]; rfl, by rw [hx.2]; rfl, wa, wb⟩
theorem shut_two {H : Type} {enc : TypeId × Value → H} {P : Program} {w : World} {base : Nat} {spare : Nat → Bool} {held : Bool} {t e : TypeId} {k : IntKind} {a b : Int}
    (ht : P.underlying t = some (.array 2 e)) (he : P.underlying e = some (.int k)) (hc : P.cellsOf t = 2) (h1 : P.cellsOf e = 1) (wa : (Lit.int k a).wf = true) (wb : (Lit.int k b).wf = true) :
    DataW.Trod enc P w base spare held t (.agg #[.int k a, .int k b]) (.agg [.lit (.int k a), .lit (.int k b)]) [] :=
  ⟨2, by
    have hr : List.range 2 = [0, 1] := rfl
    simp [DataW.trod, Value.cells, ht, he, hc, h1, hr, wa, wb]⟩
theorem own : ownKnob Tryd.prog.godebug = none := by kernel_rfl
/-- A world in which the listed variable reads as the card ties it. -/
noncomputable def laidWorld (os : Os) : World :=
  let w0 := World.holding Tryd.prog os ⟨#[], #[], []⟩
  { w0 with heap := w0.heap.modify 0 fun
      | .cells _ t frozen => .cells #[.iface 129 (.agg #[.pointer (some ⟨1, 87, none⟩)])] t frozen
      | o => o }
theorem laidWorld_met (os : Os) (args : Array Value) : laidMetH Tryd.prog Rows.clockTickRow.laid ((laidWorld os).forCall (fun _ _ => 0) ⟨#[], args, []⟩).memory :=
  laidMetH_of_parts (laidMet_nil _ _) (by kernel_rfl)
set_option maxRecDepth 100000 in
theorem lifted (os : Os) (started : os.Started) (H : Type) (enc : TypeId × Value → H) :
    ReturnsInHanded {} Tryd.checked os 9 .any (fun w args => (Rows.clockTickSpec.pre enc Tryd.prog Tryd.f9 Rows.clockTickRow.domain false w args ∧ laidMetH Tryd.prog Rows.clockTickRow.laid w) ∧ sizedMet enc Tryd.prog Tryd.f9 (OpenSpec.ofChange Rows.clockTickSpec) false w args) (Rows.clockTickSpec.post enc Tryd.prog Tryd.f9 false true false false) := by
  refine returnsInHanded_of_change_and (C := Tryd.checked) (X := fun w _ => laidMetH Tryd.prog Rows.clockTickRow.laid w) (fun _ _ _ hh h => h.of_heap hh) own started (by kernel_rfl) Tryd.func9
    (ChangeSpec.witness_at (enc := enc) (C := Tryd.checked) (os := os) (X := fun w _ => laidMetH Tryd.prog Rows.clockTickRow.laid w) false (laidWorld os) #[.int .i64 0, .agg #[.int .i64 0, .int .i64 0], .int .i64 0, .agg #[.int .i64 0, .int .i64 0], .int .u32 0] 9 rfl (by kernel_rfl) (by kernel_rfl) (by kernel_rfl) (by kernel_rfl) (by kernel_rfl) (laidWorld_met os _)) ?_
  intro W base args ds gs before hval0 hW hcnd hsz0 hL _
  have hsz : (DataW.weightsEach Tryd.prog (Tryd.f9.params.toList ++ Rows.clockTickSpec.plain.varTypes Tryd.prog) (ds ++ gs)).all (· ≤ reachBytes) = true := hsz0
  have hval : ∀ (j : Nat) t v, Tryd.f9.params[j]? = some t → args[j]? = some v → Value.okWide Tryd.prog W .any base t v := hval0
  have hW' := hW
  obtain ⟨p, q, hA0, hV, rfl, hfz, hnd⟩ := hW
  have hA : DataW.TrodAll enc Tryd.prog W 0 (fun _ => true) true Tryd.f9.params.toList args.toList ds p := hA0
  rw [Tryd.params9] at hA hval hsz
  obtain ⟨v0, vs0, d0, ds0, p0, q0, hargs, rfl, rfl, h0, r0⟩ := trodAll_cons hA
  obtain ⟨v1, vs1, d1, ds1, p1, q1, rfl, rfl, rfl, h1, r1⟩ := trodAll_cons r0
  obtain ⟨v2, vs2, d2, ds2, p2, q2, rfl, rfl, rfl, h2, r2⟩ := trodAll_cons r1
  obtain ⟨v3, vs3, d3, ds3, p3, q3, rfl, rfl, rfl, h3, r3⟩ := trodAll_cons r2
  obtain ⟨v4, vs4, d4, ds4, p4, q4, rfl, rfl, rfl, h4, r4⟩ := trodAll_cons r3
  obtain ⟨rfl, rfl, rfl⟩ := trodAll_nil r4
  obtain rfl : args = #[v0, v1, v2, v3, v4] := by cases args; simp_all
  obtain ⟨rfl, rfl⟩ := trodVars_none hV
  obtain ⟨a0, rfl, rfl, rfl, w0⟩ := open_int Tryd.underlying3 (hval 0 3 v0 rfl rfl) h0
  obtain ⟨a1, b1, rfl, rfl, rfl, w1, x1⟩ := open_two Tryd.underlying35 Tryd.underlying3 (by kernel_rfl) (by kernel_rfl) (hval 1 35 v1 rfl rfl) h1
  obtain ⟨a2, rfl, rfl, rfl, w2⟩ := open_int Tryd.underlying3 (hval 2 3 v2 rfl rfl) h2
  obtain ⟨a3, b3, rfl, rfl, rfl, w3, x3⟩ := open_two Tryd.underlying47 Tryd.underlying2 (by kernel_rfl) (by kernel_rfl) (hval 3 47 v3 rfl rfl) h3
  obtain ⟨a4, rfl, rfl, rfl, w4⟩ := open_int Tryd.underlying48 (hval 4 48 v4 rfl rfl) h4
  clear hA0 hval0 hsz0 hsz
  have hb4 : 0 ≤ a4 ∧ a4 ≤ 4294967295 := by
    have := w4
    simp [Lit.wf, IntKind.min, IntKind.max, IntKind.signed, IntKind.bits] at this
    omega
  obtain ⟨k, hk⟩ := Pure.tick_all a0 a1 b1 a2 a3 b3 a4 hb4.1 hb4.2
  refine (MHo.drumlinelaw8_ClockTick.calls k a0 a1 b1 a2 a3 b3 a4 true W hk).mono fun e W' ⟨he, bel⟩ => ?_
  subst he
  exact ⟨_, rfl, _, _, _, [], _, [], hW', trodAll_mk1 (shut_bool Tryd.underlying4 _), (trodAll_cons_mk (shut_int Tryd.underlying3 w0) (trodAll_cons_mk (shut_two Tryd.underlying35 Tryd.underlying3 (by kernel_rfl) (by kernel_rfl) w1 x1) (trodAll_cons_mk (shut_int Tryd.underlying3 w2) (trodAll_cons_mk (shut_two Tryd.underlying47 Tryd.underlying2 (by kernel_rfl) (by kernel_rfl) w3 x3) (trodAll_cons_mk (shut_int Tryd.underlying48 w4) trodAll_mk0))))), rfl, bel.frame _, fun h => by cases h⟩
theorem over : Rows.clockTickRow.holds Tryd.pinned (OpenSpec.ofChange Rows.clockTickSpec) :=
  OpenClaim.holds_of_wide 9 Tryd.f9 rfl rfl rfl rfl rfl rfl rfl ⟨rfl, rfl, rfl, rfl, rfl⟩ rfl rfl rfl rfl rfl (by kernel_rfl) Tryd.func9 (by kernel_rfl)
    (of_decide_eq_true (by kernel_rfl)) (by unfold Func.isWrapper; first | (rw [if_pos (by decide +kernel)]; kernel_rfl) | (rw [if_neg (by decide +kernel)]; exact ⟨rfl, rfl⟩))
    (fun os started H enc _ => lifted os started H enc)
theorem proved : Rows.ClockTickSaid := over
end Go.Proofs.YtkhlndhleiaokaaDoor.clockTick
namespace Go.Proofs.YtkhlndhleiaokaaDoor
/-- The card: the row, its one listed variable tied to the program's text. -/
theorem clockTick_holds : Rows.ClockTickCardSaid :=
  Claim7.holds_tied_plain_at .later [] [.handle] true (true, "aa11cce12a0c04e61e76d8dc3ab5c0d4b46ee93e17cf119b1784acb63d292e8e") true
    clockTick.proved (fun _ h => by cases h) (by kernel_rfl) (fun _ h => by cases h) clockTick_row_tie rfl ⟨rfl, rfl⟩ (by kernel_rfl) rfl
    (fun f fn hf hfn => by
      obtain rfl : f = 9 := Option.some.inj ((show Tryd.prog.funcNamed "drumline/drumlinelaw8.ClockTick" = some 9 by kernel_rfl).symm.trans hf) |>.symm
      obtain rfl : fn = Tryd.f9 := (Option.some.inj (Tryd.func9.symm.trans hfn)).symm
      exact ⟨by kernel_rfl, fun j t ht => by
        rw [Tryd.params9] at ht
        have hm : t ∈ [3, 35, 3, 47, 48] := List.mem_of_getElem? (i := j) (by simpa using ht)
        simp only [List.mem_cons, List.not_mem_nil, or_false] at hm
        rcases hm with rfl | rfl | rfl | rfl | rfl
        · exact (show Tryd.prog.wantsStandIn 3 = false by kernel_rfl)
        · exact (show Tryd.prog.wantsStandIn 35 = false by kernel_rfl)
        · exact (show Tryd.prog.wantsStandIn 3 = false by kernel_rfl)
        · exact (show Tryd.prog.wantsStandIn 47 = false by kernel_rfl)
        · exact (show Tryd.prog.wantsStandIn 48 = false by kernel_rfl)⟩)
    (by kernel_rfl)
end Go.Proofs.YtkhlndhleiaokaaDoor
