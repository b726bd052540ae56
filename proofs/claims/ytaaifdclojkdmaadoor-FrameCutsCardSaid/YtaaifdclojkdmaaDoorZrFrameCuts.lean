/- The row of FrameCuts: for every input the law returns true and leaves its arguments as they were. No conditions. -/
import Derived.Test.YtaaifdclojkdmaaDoorRows
import Derived.Test.YtaaifdclojkdmaaDoorZFr25
import Derived.Test.YtaaifdclojkdmaaDoorZFr26
import Derived.Test.YtaaifdclojkdmaaDoorZFr24
import Derived.Test.YtaaifdclojkdmaaDoorTie
import Derived.Test.YtaaifdclojkdmaaDoorCards
import Derived.ChangeSame
import Derived.ChangeVars
import Derived.JoinedOf
import Derived.LaidLaws
import Derived.LaidHandle
import Derived.Stop.Joined
import Derived.SevenTiedAt
import Derived.WalkKit
import Derived.ProofKit
import Derived.OpenShut
import Derived.ShutString
import Derived.ChangeOld
import Derived.Below
import Derived.SizedLaws
import Derived.Lib.SmallJoins
import Derived.Carry
namespace Go.Proofs.YtaaifdclojkdmaaDoor.frameCuts
open Go.Deep Go.ChangeShapes Go.WideShapes Go.ChangeAt Go.RowKit Go.Joins Go.Proofs.YtaaifdclojkdmaaDoor.Opn Go.Proofs.YtaaifdclojkdmaaDoorW.PrintWords
open Go.ChangeMaps (open_string shut_string)
set_option linter.unusedVariables false
theorem own : ownKnob Tryd.prog.godebug = none := by kernel_rfl
theorem laidOut : laidOutB Tryd.prog = true := by kernel_rfl
/-- A world in which the listed variable reads as the card ties it. -/
noncomputable def laidWorld (os : Os) : World :=
  let w0 := World.holding Tryd.prog os ⟨#[], #[], []⟩
  { w0 with heap := w0.heap.modify 0 fun
      | .cells _ t frozen => .cells #[.iface 118 (.agg #[.pointer (some ⟨1, 65, none⟩)])] t frozen
      | o => o }
theorem laidWorld_met (os : Os) (args : Array Value) : laidMetH Tryd.prog Rows.frameCutsRow.laid ((laidWorld os).forCall (fun _ _ => 0) ⟨#[], args, []⟩).memory :=
  laidMetH_of_parts (laidMet_nil _ _) (by kernel_rfl)
theorem et_ : Tryd.prog.globalNamed "errors.errorType" = some 0 := by kernel_rfl
theorem rt_ : (Tryd.prog.cutTypes.find? (·.1 == "internal/reflectlite.rtype")).map (·.2) = some 118 := by kernel_rfl
theorem oneRow_ : ((List.range 161).filter fun t => Tryd.prog.rowNamed t [101, 114, 114, 111, 114]) = [65] := by kernel_rfl
theorem size_ : Tryd.prog.types.size = 161 := by kernel_rfl
/-- What the condition gives a walk: the variable's one cell. -/
theorem gv_of_laid {W : World} (h : laidMetH Tryd.prog Rows.frameCutsRow.laid W) : MFr.Gv W := by
  have h' : laidMet Tryd.prog [] W ∧ handlesMet Tryd.prog Rows.frameCutsRow.laid W := h
  obtain ⟨name, u, ty, e1, e2, e3, e4, e5⟩ := h'.2 _ (List.mem_singleton.2 rfl)
  have en : name = [101, 114, 114, 111, 114] := (Option.some.inj e1).symm
  subst en
  obtain rfl := Option.some.inj (rt_.symm.trans e2)
  have hm : ty ∈ (List.range 161).filter fun t => Tryd.prog.rowNamed t [101, 114, 114, 111, 114] := List.mem_filter.2 ⟨List.mem_range.2 (by rw [← size_]; exact e3), e4⟩
  rw [oneRow_] at hm
  obtain rfl := List.mem_singleton.1 hm
  have hh : typeHandle Tryd.prog 65 = .pointer (some ⟨1, 65, none⟩) := by kernel_rfl
  rw [hh] at e5
  simpa [MFr.Gv] using World.var?_cell et_ e5 0
set_option maxRecDepth 100000 in
theorem lifted (os : Os) (started : os.Started) (H : Type) (enc : TypeId × Value → H) :
    ReturnsInHanded {} Tryd.checked os 5 .any (fun w args => (Rows.frameCutsSpec.pre enc Tryd.prog Tryd.f5 Rows.frameCutsRow.domain false w args ∧ laidMetH Tryd.prog Rows.frameCutsRow.laid w) ∧ sizedMet enc Tryd.prog Tryd.f5 (OpenSpec.ofChange Rows.frameCutsSpec) false w args) (Rows.frameCutsSpec.post enc Tryd.prog Tryd.f5 false true false false) := by
  refine returnsInHanded_of_change_and (C := Tryd.checked) (X := fun w _ => laidMetH Tryd.prog Rows.frameCutsRow.laid w) (fun _ _ _ hh h => h.of_heap hh) own started (by kernel_rfl) Tryd.func5
    (ChangeSpec.witness_at (enc := enc) (C := Tryd.checked) (os := os) (X := fun w _ => laidMetH Tryd.prog Rows.frameCutsRow.laid w) false (laidWorld os) #[.agg #[.int .i64 0, .int .i64 0, .int .i64 0, .int .i64 0, .int .i64 0, .int .i64 0, .bool false, .int .i64 0, .int .i64 0, .slice none 0 0, .int .i64 0, .int .i64 0, .int .i64 0, .slice none 0 0], .int .u8 0, .slice none 0 0] 8 rfl (by kernel_rfl) (by kernel_rfl) (by kernel_rfl) (by kernel_rfl) (by kernel_rfl) (laidWorld_met os _)) ?_
  intro W base args ds gs before hval0 hW hcnd hsz0 hL _
  have hval : ∀ (j : Nat) t v, Tryd.f5.params[j]? = some t → args[j]? = some v → Value.okWide Tryd.prog W .any base t v := hval0
  have hW' := hW
  obtain ⟨p, q, hA0, hV, rfl, hfz, hnd⟩ := hW
  have hA : DataW.TrodAll enc Tryd.prog W 0 (fun _ => true) true Tryd.f5.params.toList args.toList ds p := hA0
  rw [Tryd.params5] at hA hval
  obtain ⟨v0, vs0, d0, ds0, p0, q0, hargs, rfl, rfl, h0, r0⟩ := trodAll_cons hA
  obtain ⟨v1, vs1, d1, ds1, p1, q1, rfl, rfl, rfl, h1, r1⟩ := trodAll_cons r0
  obtain ⟨v2, vs2, d2, ds2, p2, q2, rfl, rfl, rfl, h2, r2⟩ := trodAll_cons r1
  obtain ⟨rfl, rfl, rfl⟩ := trodAll_nil r2
  obtain rfl : args = #[v0, v1, v2] := by cases args; simp_all
  obtain ⟨rfl, rfl⟩ := trodVars_none hV
  have k0 := h0
  have lt0 : ∀ x ∈ p0, x.block < W.heap.size := by obtain ⟨m, hm⟩ := k0; exact DataW.trod_lt m _ _ _ hm
  obtain ⟨e0_0, e0_1, e0_2, e0_3, e0_4, e0_5, e0_6, e0_7, e0_8, e0_9, e0_10, e0_11, e0_12, e0_13, y0_0, y0_1, y0_2, y0_3, y0_4, y0_5, y0_6, y0_7, y0_8, y0_9, y0_10, y0_11, y0_12, y0_13, n0, rfl, hd0, hp0, f0_0, f0_1, f0_2, f0_3, f0_4, f0_5, f0_6, f0_7, f0_8, f0_9, f0_10, f0_11, f0_12, f0_13⟩ := open_agg14 Tryd.underlying25 (by kernel_rfl) (by kernel_rfl) (hval 0 25 v0 rfl rfl) h0
  clear h0 hd0 hp0
  obtain ⟨a0_0, hx0_0, _, w0_0⟩ := DataW.trod_int Tryd.underlying3 f0_0
  simp only [List.cons.injEq, and_true] at hx0_0
  subst hx0_0
  clear f0_0
  obtain ⟨a0_1, hx0_1, _, w0_1⟩ := DataW.trod_int Tryd.underlying3 f0_1
  simp only [List.cons.injEq, and_true] at hx0_1
  subst hx0_1
  clear f0_1
  obtain ⟨a0_2, hx0_2, _, w0_2⟩ := DataW.trod_int Tryd.underlying3 f0_2
  simp only [List.cons.injEq, and_true] at hx0_2
  subst hx0_2
  clear f0_2
  obtain ⟨a0_3, hx0_3, _, w0_3⟩ := DataW.trod_int Tryd.underlying3 f0_3
  simp only [List.cons.injEq, and_true] at hx0_3
  subst hx0_3
  clear f0_3
  obtain ⟨a0_4, hx0_4, _, w0_4⟩ := DataW.trod_int Tryd.underlying3 f0_4
  simp only [List.cons.injEq, and_true] at hx0_4
  subst hx0_4
  clear f0_4
  obtain ⟨a0_5, hx0_5, _, w0_5⟩ := DataW.trod_int Tryd.underlying3 f0_5
  simp only [List.cons.injEq, and_true] at hx0_5
  subst hx0_5
  clear f0_5
  obtain ⟨a0_6, hx0_6, _⟩ := DataW.trod_bool Tryd.underlying4 f0_6
  simp only [List.cons.injEq, and_true] at hx0_6
  subst hx0_6
  clear f0_6
  obtain ⟨a0_7, hx0_7, _, w0_7⟩ := DataW.trod_int Tryd.underlying2 f0_7
  simp only [List.cons.injEq, and_true] at hx0_7
  subst hx0_7
  clear f0_7
  obtain ⟨a0_8, hx0_8, _, w0_8⟩ := DataW.trod_int Tryd.underlying2 f0_8
  simp only [List.cons.injEq, and_true] at hx0_8
  subst hx0_8
  clear f0_8
  obtain ⟨l0_9, ⟨b0_9, c0_9, hx0_9, hle0_9, hC0_9⟩, g0_9⟩ := (opens_slice Tryd.underlying22 (by kernel_rfl) (opens_int Tryd.underlying3)) enc W _ _ _ f0_9
  simp only [List.cons.injEq, and_true] at hx0_9
  subst hx0_9
  clear f0_9
  obtain ⟨a0_10, hx0_10, _, w0_10⟩ := DataW.trod_int Tryd.underlying3 f0_10
  simp only [List.cons.injEq, and_true] at hx0_10
  subst hx0_10
  clear f0_10
  obtain ⟨a0_11, hx0_11, _, w0_11⟩ := DataW.trod_int Tryd.underlying3 f0_11
  simp only [List.cons.injEq, and_true] at hx0_11
  subst hx0_11
  clear f0_11
  obtain ⟨a0_12, hx0_12, _, w0_12⟩ := DataW.trod_int Tryd.underlying2 f0_12
  simp only [List.cons.injEq, and_true] at hx0_12
  subst hx0_12
  clear f0_12
  obtain ⟨l0_13, ⟨b0_13, c0_13, hx0_13, hle0_13, hC0_13⟩, g0_13⟩ := (opens_slice Tryd.underlying23 (by kernel_rfl) (opens_int Tryd.underlying5)) enc W _ _ _ f0_13
  simp only [List.cons.injEq, and_true] at hx0_13
  subst hx0_13
  clear f0_13
  obtain ⟨a1, rfl, rfl, rfl, w1⟩ := open_int Tryd.underlying5 (hval 1 5 v1 rfl rfl) h1
  obtain ⟨b2, n2, m2, rfl⟩ := okWide_slice Tryd.underlying23 (hval 2 23 v2 rfl rfl)
  have k2 := h2
  have lt2 : ∀ x ∈ p2, x.block < W.heap.size := by obtain ⟨m, hm⟩ := k2; exact DataW.trod_lt m _ _ _ hm
  obtain ⟨l2, c2, hle2, hC2, g2⟩ : ∃ l c, l.length ≤ c ∧ Kd.C (Kd.int .u8) W b2 l.length l ∧ ((fun (l : List (Int)) => (∀ x ∈ l, (fun (n : Int) => (Lit.int .u8 n).wf = true) x) ∧ l.length ≤ 9223372036854775807) l) ∧ n2 = l.length ∧ m2 = c := by
    obtain ⟨fuel, hf⟩ := h2
    obtain ⟨l, ⟨A, c, hcs, hle, hC⟩, hg⟩ := (opens_slice Tryd.underlying23 (by kernel_rfl) (opens_int Tryd.underlying5)) enc W fuel _ _ hf
    simp only [Value.cells, List.cons.injEq, Value.slice.injEq, and_true] at hcs
    obtain ⟨rfl, rfl, rfl⟩ := hcs
    exact ⟨l, _, hle, hC, hg, rfl, rfl⟩
  obtain ⟨g2, rfl, rfl⟩ := g2
  clear h2
  have hGv := gv_of_laid hL
  clear hA0 hval0 hsz0 hval hcnd hL
  obtain ⟨k, hk⟩ := (MFr.FrameCuts_ ⟨a0_0, a0_1, a0_2, a0_3, a0_4, a0_5, a0_6, a0_7, a0_8, l0_9, a0_10, a0_11, a0_12, l0_13⟩ ⟨MFr.wfi w0_8, g0_9.2, MFr.wfb g0_13.1⟩ a1 l2 (MFr.wfu8 w1).1 (MFr.wfu8 w1).2 (MFr.wfb g2.1)).some_
  refine (MFr.drumlinelaw4_FrameCuts.calls k a0_0 a0_1 a0_2 a0_3 a0_4 a0_5 a0_6 a0_7 a0_8 b0_9 c0_9 l0_9 a0_10 a0_11 a0_12 b0_13 c0_13 l0_13 a1 b2 m2 l2 true W hC0_9 hle0_9 hC0_13 hle0_13 hC2 hle2 hk hGv).mono fun e W' ⟨he, bel⟩ => ?_
  subst he
  exact ⟨_, rfl, _, _, _, [], _, [], hW', trodAll_mk1 (shut_bool Tryd.underlying4 _), (trodAll_cons_mk (Below.trod laidOut (by kernel_rfl) (of_decide_eq_true (by kernel_rfl)) k0 bel lt0) (trodAll_cons_mk (shut_int Tryd.underlying5 w1) (trodAll_cons_mk (Below.trod laidOut (by kernel_rfl) (of_decide_eq_true (by kernel_rfl)) k2 bel lt2) trodAll_mk0))), rfl, bel.frame _, fun h => by cases h⟩
theorem over : Rows.frameCutsRow.holds Tryd.pinned (OpenSpec.ofChange Rows.frameCutsSpec) :=
  OpenClaim.holds_of_wide 5 Tryd.f5 rfl rfl rfl rfl rfl rfl rfl ⟨rfl, rfl, rfl, rfl, rfl⟩ rfl rfl rfl rfl rfl (by kernel_rfl) Tryd.func5 (by kernel_rfl)
    (of_decide_eq_true (by kernel_rfl)) (by unfold Func.isWrapper; first | (rw [if_pos (by decide +kernel)]; kernel_rfl) | (rw [if_neg (by decide +kernel)]; exact ⟨rfl, rfl⟩))
    (fun os started H enc _ => lifted os started H enc)
theorem proved : Rows.FrameCutsSaid := over
end Go.Proofs.YtaaifdclojkdmaaDoor.frameCuts
namespace Go.Proofs.YtaaifdclojkdmaaDoor
/-- The card: the row, its one listed variable tied to the program's text. -/
theorem frameCuts_holds : Rows.FrameCutsCardSaid :=
  Claim7.holds_tied_plain_at .later [] [.handle] true (true, "6cda7300b51618dea6a1b3e9141af95fe1074587f5da65d640e1e82977b992fe") true
    frameCuts.proved (fun _ h => by cases h) (by kernel_rfl) (fun _ h => by cases h) frameCuts_row_tie rfl ⟨rfl, rfl⟩ (by kernel_rfl) rfl
    (fun f fn hf hfn => by
      obtain rfl : f = 5 := Option.some.inj ((show Tryd.prog.funcNamed "drumline/drumlinelaw4.FrameCuts" = some 5 by kernel_rfl).symm.trans hf) |>.symm
      obtain rfl : fn = Tryd.f5 := (Option.some.inj (Tryd.func5.symm.trans hfn)).symm
      exact ⟨by kernel_rfl, fun j t ht => by
        rw [Tryd.params5] at ht
        have hm : t ∈ [25, 5, 23] := List.mem_of_getElem? (i := j) (by simpa using ht)
        simp only [List.mem_cons, List.not_mem_nil, or_false] at hm
        rcases hm with rfl | rfl | rfl
        · exact (show Tryd.prog.wantsStandIn 25 = false by kernel_rfl)
        · exact (show Tryd.prog.wantsStandIn 5 = false by kernel_rfl)
        · exact (show Tryd.prog.wantsStandIn 23 = false by kernel_rfl)⟩)
    (by kernel_rfl)
end Go.Proofs.YtaaifdclojkdmaaDoor
