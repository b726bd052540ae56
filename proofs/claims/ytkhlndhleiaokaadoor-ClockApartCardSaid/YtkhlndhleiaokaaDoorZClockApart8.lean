/- Texts that ClockApart leans on, laid together by a program (wip/d/merge.py): MHox80, Plain, PuNet, MHox81, MHox84, PuNum, PuClockApart. -/
import Derived.Test.YtkhlndhleiaokaaDoorZClockApart1
import Derived.Test.YtkhlndhleiaokaaDoorZClockApart6
import Derived.Test.YtkhlndhleiaokaaDoorZClockApart7
import Derived.RowKit
import Derived.Test.YtkhlndhleiaokaaDoorZClockApart5
namespace Go.Proofs.YtkhlndhleiaokaaDoor.MHo
open Go.RowKit Go.Proofs.YtkhlndhleiaokaaDoorW.PrintWords Go.Proofs.YtkhlndhleiaokaaDoorW.PrintLast Go.Proofs.YtkhlndhleiaokaaDoorW.PrintMore
attribute [local go_sem] mp_u32s mp_u32m mp_u8s mp_u8m max2_int min2_int max_two min_two max_three min_three max_four min_four   -- for this text's walks alone
set_option linter.unusedVariables false
set_option linter.unusedSimpArgs false

/-! ### drumlinelaw8_ClockApart: function 7 -/
def drumlinelaw8_ClockApart.j0 : Nat → Int → Int → Int → Int → Bool → List (S60) → List (S37) → Int → Int → Int → Int → Int → Int → Int → Int → Int → Int → Int → Option (Bool)
 | 0, _, _, _, _, _, _, _, _, _, _, _, _, _, _, _, _, _, _ => none
 | k + 1, x1, x2, x3, x4, x63, x487000, x487001, x487002, x487003, x487004, x487005, x487006, x487007, x487008, x487009, x487010, x487011, x487012 => if x63 = true then (some true) else ((clock_Real.f x1 (wrap64 (x2 + x4))).bind fun t487 => ((clock_Real.f x1 (wrap64 (x3 + x4))).bind fun t488 => ((bounds_Edge.f k x487000 x487001 x487002 x487003 x487004 x487005 x487006 x487007 x487008 x487009 x487010 x487011 x487012).bind fun t489 => (if (wrap64 (t487 - t488)) < t489 then ((bounds_Edge.f k x487000 x487001 x487002 x487003 x487004 x487005 x487006 x487007 x487008 x487009 x487010 x487011 x487012).bind fun t490 => (some (decide ((wrap64 (-(wrap64 (t487 - t488)))) < t490)))) else (some false)))))
def drumlinelaw8_ClockApart.f (k : Nat) (a0 : Int) (a1 : Int) (a2 : Int) (a3 : Int) (a4 : Int) : Option (Bool) := (drumlinelaw8_alive.f).bind fun t468 => (if t468 = true then ((drumlineref26_Made.f a0).bind fun bt469 => (if a1 < 0 then (drumlinelaw8_ClockApart.j0 k a1 a2 a3 a4 true bt469.1 bt469.2.1 bt469.2.2.1 bt469.2.2.2.1 bt469.2.2.2.2.1 bt469.2.2.2.2.2.1 bt469.2.2.2.2.2.2.1 bt469.2.2.2.2.2.2.2.1 bt469.2.2.2.2.2.2.2.2.1 bt469.2.2.2.2.2.2.2.2.2.1 bt469.2.2.2.2.2.2.2.2.2.2.1 bt469.2.2.2.2.2.2.2.2.2.2.2.1 bt469.2.2.2.2.2.2.2.2.2.2.2.2) else (if a1 > bt469.2.2.1 then (drumlinelaw8_ClockApart.j0 k a1 a2 a3 a4 true bt469.1 bt469.2.1 bt469.2.2.1 bt469.2.2.2.1 bt469.2.2.2.2.1 bt469.2.2.2.2.2.1 bt469.2.2.2.2.2.2.1 bt469.2.2.2.2.2.2.2.1 bt469.2.2.2.2.2.2.2.2.1 bt469.2.2.2.2.2.2.2.2.2.1 bt469.2.2.2.2.2.2.2.2.2.2.1 bt469.2.2.2.2.2.2.2.2.2.2.2.1 bt469.2.2.2.2.2.2.2.2.2.2.2.2) else (if a2 < (wrap64 (-bt469.2.2.2.2.2.2.1)) then (drumlinelaw8_ClockApart.j0 k a1 a2 a3 a4 true bt469.1 bt469.2.1 bt469.2.2.1 bt469.2.2.2.1 bt469.2.2.2.2.1 bt469.2.2.2.2.2.1 bt469.2.2.2.2.2.2.1 bt469.2.2.2.2.2.2.2.1 bt469.2.2.2.2.2.2.2.2.1 bt469.2.2.2.2.2.2.2.2.2.1 bt469.2.2.2.2.2.2.2.2.2.2.1 bt469.2.2.2.2.2.2.2.2.2.2.2.1 bt469.2.2.2.2.2.2.2.2.2.2.2.2) else (if a2 > bt469.2.2.2.2.2.2.1 then (drumlinelaw8_ClockApart.j0 k a1 a2 a3 a4 true bt469.1 bt469.2.1 bt469.2.2.1 bt469.2.2.2.1 bt469.2.2.2.2.1 bt469.2.2.2.2.2.1 bt469.2.2.2.2.2.2.1 bt469.2.2.2.2.2.2.2.1 bt469.2.2.2.2.2.2.2.2.1 bt469.2.2.2.2.2.2.2.2.2.1 bt469.2.2.2.2.2.2.2.2.2.2.1 bt469.2.2.2.2.2.2.2.2.2.2.2.1 bt469.2.2.2.2.2.2.2.2.2.2.2.2) else (if a3 < (wrap64 (-bt469.2.2.2.2.2.2.1)) then (drumlinelaw8_ClockApart.j0 k a1 a2 a3 a4 true bt469.1 bt469.2.1 bt469.2.2.1 bt469.2.2.2.1 bt469.2.2.2.2.1 bt469.2.2.2.2.2.1 bt469.2.2.2.2.2.2.1 bt469.2.2.2.2.2.2.2.1 bt469.2.2.2.2.2.2.2.2.1 bt469.2.2.2.2.2.2.2.2.2.1 bt469.2.2.2.2.2.2.2.2.2.2.1 bt469.2.2.2.2.2.2.2.2.2.2.2.1 bt469.2.2.2.2.2.2.2.2.2.2.2.2) else (if a3 > bt469.2.2.2.2.2.2.1 then (drumlinelaw8_ClockApart.j0 k a1 a2 a3 a4 true bt469.1 bt469.2.1 bt469.2.2.1 bt469.2.2.2.1 bt469.2.2.2.2.1 bt469.2.2.2.2.2.1 bt469.2.2.2.2.2.2.1 bt469.2.2.2.2.2.2.2.1 bt469.2.2.2.2.2.2.2.2.1 bt469.2.2.2.2.2.2.2.2.2.1 bt469.2.2.2.2.2.2.2.2.2.2.1 bt469.2.2.2.2.2.2.2.2.2.2.2.1 bt469.2.2.2.2.2.2.2.2.2.2.2.2) else (if a4 < (wrap64 (-bt469.2.2.2.2.2.2.2.1)) then (drumlinelaw8_ClockApart.j0 k a1 a2 a3 a4 true bt469.1 bt469.2.1 bt469.2.2.1 bt469.2.2.2.1 bt469.2.2.2.2.1 bt469.2.2.2.2.2.1 bt469.2.2.2.2.2.2.1 bt469.2.2.2.2.2.2.2.1 bt469.2.2.2.2.2.2.2.2.1 bt469.2.2.2.2.2.2.2.2.2.1 bt469.2.2.2.2.2.2.2.2.2.2.1 bt469.2.2.2.2.2.2.2.2.2.2.2.1 bt469.2.2.2.2.2.2.2.2.2.2.2.2) else (drumlinelaw8_ClockApart.j0 k a1 a2 a3 a4 (decide (a4 > bt469.2.2.2.2.2.2.2.1)) bt469.1 bt469.2.1 bt469.2.2.1 bt469.2.2.2.1 bt469.2.2.2.2.1 bt469.2.2.2.2.2.1 bt469.2.2.2.2.2.2.1 bt469.2.2.2.2.2.2.2.1 bt469.2.2.2.2.2.2.2.2.1 bt469.2.2.2.2.2.2.2.2.2.1 bt469.2.2.2.2.2.2.2.2.2.2.1 bt469.2.2.2.2.2.2.2.2.2.2.2.1 bt469.2.2.2.2.2.2.2.2.2.2.2.2))))))))) else (some false))
theorem drumlinelaw8_ClockApart.mono_l : ∀ k, (∀ y0 y1 y2 y3 y4 y5 y6 y7 y8 y9 y10 y11 y12 y13 y14 y15 y16 y17, LeO (drumlinelaw8_ClockApart.j0 k y0 y1 y2 y3 y4 y5 y6 y7 y8 y9 y10 y11 y12 y13 y14 y15 y16 y17) (drumlinelaw8_ClockApart.j0 (k + 1) y0 y1 y2 y3 y4 y5 y6 y7 y8 y9 y10 y11 y12 y13 y14 y15 y16 y17))
 | 0 => fun _ _ _ _ _ _ _ _ _ _ _ _ _ _ _ _ _ _ r h => by simp [drumlinelaw8_ClockApart.j0] at h
 | k + 1 => by
  have ih0 := drumlinelaw8_ClockApart.mono_l k
  ·intro y0 y1 y2 y3 y4 y5 y6 y7 y8 y9 y10 y11 y12 y13 y14 y15 y16 y17
   unfold drumlinelaw8_ClockApart.j0
   repeat' first
   | (with_reducible exact ih0 _ _ _ _ _ _ _ _ _ _ _ _ _ _ _ _ _ _)
   | (with_reducible exact bounds_Edge.mono _ _ _ _ _ _ _ _ _ _ _ _ _ _)
   | (with_reducible exact LeO.refl _)
   | (with_reducible exact LeO.none _)
   | (with_reducible refine LeO.ite ?_ ?_)
   | (with_reducible refine LeO.bind ?_ (fun _ => ?_))
   | exact ih0 _ _ _ _ _ _ _ _ _ _ _ _ _ _ _ _ _ _
   | exact bounds_Edge.mono _ _ _ _ _ _ _ _ _ _ _ _ _ _
   | exact LeO.none _
   | refine LeO.ite ?_ ?_
   | refine LeO.bind ?_ (fun _ => ?_)
theorem drumlinelaw8_ClockApart.mono : ∀ a0 a1 a2 a3 a4 k, LeO (drumlinelaw8_ClockApart.f k a0 a1 a2 a3 a4) (drumlinelaw8_ClockApart.f (k + 1) a0 a1 a2 a3 a4) := by
 intro a0 a1 a2 a3 a4 k
 have ih0 := drumlinelaw8_ClockApart.mono_l k
 unfold drumlinelaw8_ClockApart.f
 repeat' first
   | (with_reducible exact ih0 _ _ _ _ _ _ _ _ _ _ _ _ _ _ _ _ _ _)
   | (with_reducible exact bounds_Edge.mono _ _ _ _ _ _ _ _ _ _ _ _ _ _)
   | (with_reducible exact LeO.refl _)
   | (with_reducible exact LeO.none _)
   | (with_reducible refine LeO.ite ?_ ?_)
   | (with_reducible refine LeO.bind ?_ (fun _ => ?_))
   | exact ih0 _ _ _ _ _ _ _ _ _ _ _ _ _ _ _ _ _ _
   | exact bounds_Edge.mono _ _ _ _ _ _ _ _ _ _ _ _ _ _
   | exact LeO.none _
   | refine LeO.ite ?_ ?_
   | refine LeO.bind ?_ (fun _ => ?_)
set_option maxHeartbeats 8000000 in
set_option maxRecDepth 100000 in
theorem drumlinelaw8_ClockApart.calls (k : Nat) (a0 : Int) (a1 : Int) (a2 : Int) (a3 : Int) (a4 : Int) (r : Bool) (w : World) (h : drumlinelaw8_ClockApart.f k a0 a1 a2 a3 a4 = some r) :
  Calls Tryd.prog 7 #[.int .i64 a0, .int .i64 a1, .int .i64 a2, .int .i64 a3, .int .i64 a4] w fun e w' => e = .returned (.bool r) ∧ Below w.heap.size w w' := by
 have hu25 := Tryd.underlying25
 have HB := Aside0.mk (Below.refl w.heap.size w)
 have H : ((drumlinelaw8_alive.f).bind fun t468 => (if t468 = true then ((drumlineref26_Made.f a0).bind fun bt469 => (if a1 < 0 then (drumlinelaw8_ClockApart.j0 k a1 a2 a3 a4 true bt469.1 bt469.2.1 bt469.2.2.1 bt469.2.2.2.1 bt469.2.2.2.2.1 bt469.2.2.2.2.2.1 bt469.2.2.2.2.2.2.1 bt469.2.2.2.2.2.2.2.1 bt469.2.2.2.2.2.2.2.2.1 bt469.2.2.2.2.2.2.2.2.2.1 bt469.2.2.2.2.2.2.2.2.2.2.1 bt469.2.2.2.2.2.2.2.2.2.2.2.1 bt469.2.2.2.2.2.2.2.2.2.2.2.2) else (if a1 > bt469.2.2.1 then (drumlinelaw8_ClockApart.j0 k a1 a2 a3 a4 true bt469.1 bt469.2.1 bt469.2.2.1 bt469.2.2.2.1 bt469.2.2.2.2.1 bt469.2.2.2.2.2.1 bt469.2.2.2.2.2.2.1 bt469.2.2.2.2.2.2.2.1 bt469.2.2.2.2.2.2.2.2.1 bt469.2.2.2.2.2.2.2.2.2.1 bt469.2.2.2.2.2.2.2.2.2.2.1 bt469.2.2.2.2.2.2.2.2.2.2.2.1 bt469.2.2.2.2.2.2.2.2.2.2.2.2) else (if a2 < (wrap64 (-bt469.2.2.2.2.2.2.1)) then (drumlinelaw8_ClockApart.j0 k a1 a2 a3 a4 true bt469.1 bt469.2.1 bt469.2.2.1 bt469.2.2.2.1 bt469.2.2.2.2.1 bt469.2.2.2.2.2.1 bt469.2.2.2.2.2.2.1 bt469.2.2.2.2.2.2.2.1 bt469.2.2.2.2.2.2.2.2.1 bt469.2.2.2.2.2.2.2.2.2.1 bt469.2.2.2.2.2.2.2.2.2.2.1 bt469.2.2.2.2.2.2.2.2.2.2.2.1 bt469.2.2.2.2.2.2.2.2.2.2.2.2) else (if a2 > bt469.2.2.2.2.2.2.1 then (drumlinelaw8_ClockApart.j0 k a1 a2 a3 a4 true bt469.1 bt469.2.1 bt469.2.2.1 bt469.2.2.2.1 bt469.2.2.2.2.1 bt469.2.2.2.2.2.1 bt469.2.2.2.2.2.2.1 bt469.2.2.2.2.2.2.2.1 bt469.2.2.2.2.2.2.2.2.1 bt469.2.2.2.2.2.2.2.2.2.1 bt469.2.2.2.2.2.2.2.2.2.2.1 bt469.2.2.2.2.2.2.2.2.2.2.2.1 bt469.2.2.2.2.2.2.2.2.2.2.2.2) else (if a3 < (wrap64 (-bt469.2.2.2.2.2.2.1)) then (drumlinelaw8_ClockApart.j0 k a1 a2 a3 a4 true bt469.1 bt469.2.1 bt469.2.2.1 bt469.2.2.2.1 bt469.2.2.2.2.1 bt469.2.2.2.2.2.1 bt469.2.2.2.2.2.2.1 bt469.2.2.2.2.2.2.2.1 bt469.2.2.2.2.2.2.2.2.1 bt469.2.2.2.2.2.2.2.2.2.1 bt469.2.2.2.2.2.2.2.2.2.2.1 bt469.2.2.2.2.2.2.2.2.2.2.2.1 bt469.2.2.2.2.2.2.2.2.2.2.2.2) else (if a3 > bt469.2.2.2.2.2.2.1 then (drumlinelaw8_ClockApart.j0 k a1 a2 a3 a4 true bt469.1 bt469.2.1 bt469.2.2.1 bt469.2.2.2.1 bt469.2.2.2.2.1 bt469.2.2.2.2.2.1 bt469.2.2.2.2.2.2.1 bt469.2.2.2.2.2.2.2.1 bt469.2.2.2.2.2.2.2.2.1 bt469.2.2.2.2.2.2.2.2.2.1 bt469.2.2.2.2.2.2.2.2.2.2.1 bt469.2.2.2.2.2.2.2.2.2.2.2.1 bt469.2.2.2.2.2.2.2.2.2.2.2.2) else (if a4 < (wrap64 (-bt469.2.2.2.2.2.2.2.1)) then (drumlinelaw8_ClockApart.j0 k a1 a2 a3 a4 true bt469.1 bt469.2.1 bt469.2.2.1 bt469.2.2.2.1 bt469.2.2.2.2.1 bt469.2.2.2.2.2.1 bt469.2.2.2.2.2.2.1 bt469.2.2.2.2.2.2.2.1 bt469.2.2.2.2.2.2.2.2.1 bt469.2.2.2.2.2.2.2.2.2.1 bt469.2.2.2.2.2.2.2.2.2.2.1 bt469.2.2.2.2.2.2.2.2.2.2.2.1 bt469.2.2.2.2.2.2.2.2.2.2.2.2) else (drumlinelaw8_ClockApart.j0 k a1 a2 a3 a4 (decide (a4 > bt469.2.2.2.2.2.2.2.1)) bt469.1 bt469.2.1 bt469.2.2.1 bt469.2.2.2.1 bt469.2.2.2.2.1 bt469.2.2.2.2.2.1 bt469.2.2.2.2.2.2.1 bt469.2.2.2.2.2.2.2.1 bt469.2.2.2.2.2.2.2.2.1 bt469.2.2.2.2.2.2.2.2.2.1 bt469.2.2.2.2.2.2.2.2.2.2.1 bt469.2.2.2.2.2.2.2.2.2.2.2.1 bt469.2.2.2.2.2.2.2.2.2.2.2.2))))))))) else (some false))) = some r := h
 clear h
 replace H := Option.bind_eq_some_iff.mp H
 obtain ⟨t468, A60, H⟩ := H
 replace H : (if t468 = true then ((drumlineref26_Made.f a0).bind fun bt469 => (if a1 < 0 then (drumlinelaw8_ClockApart.j0 k a1 a2 a3 a4 true bt469.1 bt469.2.1 bt469.2.2.1 bt469.2.2.2.1 bt469.2.2.2.2.1 bt469.2.2.2.2.2.1 bt469.2.2.2.2.2.2.1 bt469.2.2.2.2.2.2.2.1 bt469.2.2.2.2.2.2.2.2.1 bt469.2.2.2.2.2.2.2.2.2.1 bt469.2.2.2.2.2.2.2.2.2.2.1 bt469.2.2.2.2.2.2.2.2.2.2.2.1 bt469.2.2.2.2.2.2.2.2.2.2.2.2) else (if a1 > bt469.2.2.1 then (drumlinelaw8_ClockApart.j0 k a1 a2 a3 a4 true bt469.1 bt469.2.1 bt469.2.2.1 bt469.2.2.2.1 bt469.2.2.2.2.1 bt469.2.2.2.2.2.1 bt469.2.2.2.2.2.2.1 bt469.2.2.2.2.2.2.2.1 bt469.2.2.2.2.2.2.2.2.1 bt469.2.2.2.2.2.2.2.2.2.1 bt469.2.2.2.2.2.2.2.2.2.2.1 bt469.2.2.2.2.2.2.2.2.2.2.2.1 bt469.2.2.2.2.2.2.2.2.2.2.2.2) else (if a2 < (wrap64 (-bt469.2.2.2.2.2.2.1)) then (drumlinelaw8_ClockApart.j0 k a1 a2 a3 a4 true bt469.1 bt469.2.1 bt469.2.2.1 bt469.2.2.2.1 bt469.2.2.2.2.1 bt469.2.2.2.2.2.1 bt469.2.2.2.2.2.2.1 bt469.2.2.2.2.2.2.2.1 bt469.2.2.2.2.2.2.2.2.1 bt469.2.2.2.2.2.2.2.2.2.1 bt469.2.2.2.2.2.2.2.2.2.2.1 bt469.2.2.2.2.2.2.2.2.2.2.2.1 bt469.2.2.2.2.2.2.2.2.2.2.2.2) else (if a2 > bt469.2.2.2.2.2.2.1 then (drumlinelaw8_ClockApart.j0 k a1 a2 a3 a4 true bt469.1 bt469.2.1 bt469.2.2.1 bt469.2.2.2.1 bt469.2.2.2.2.1 bt469.2.2.2.2.2.1 bt469.2.2.2.2.2.2.1 bt469.2.2.2.2.2.2.2.1 bt469.2.2.2.2.2.2.2.2.1 bt469.2.2.2.2.2.2.2.2.2.1 bt469.2.2.2.2.2.2.2.2.2.2.1 bt469.2.2.2.2.2.2.2.2.2.2.2.1 bt469.2.2.2.2.2.2.2.2.2.2.2.2) else (if a3 < (wrap64 (-bt469.2.2.2.2.2.2.1)) then (drumlinelaw8_ClockApart.j0 k a1 a2 a3 a4 true bt469.1 bt469.2.1 bt469.2.2.1 bt469.2.2.2.1 bt469.2.2.2.2.1 bt469.2.2.2.2.2.1 bt469.2.2.2.2.2.2.1 bt469.2.2.2.2.2.2.2.1 bt469.2.2.2.2.2.2.2.2.1 bt469.2.2.2.2.2.2.2.2.2.1 bt469.2.2.2.2.2.2.2.2.2.2.1 bt469.2.2.2.2.2.2.2.2.2.2.2.1 bt469.2.2.2.2.2.2.2.2.2.2.2.2) else (if a3 > bt469.2.2.2.2.2.2.1 then (drumlinelaw8_ClockApart.j0 k a1 a2 a3 a4 true bt469.1 bt469.2.1 bt469.2.2.1 bt469.2.2.2.1 bt469.2.2.2.2.1 bt469.2.2.2.2.2.1 bt469.2.2.2.2.2.2.1 bt469.2.2.2.2.2.2.2.1 bt469.2.2.2.2.2.2.2.2.1 bt469.2.2.2.2.2.2.2.2.2.1 bt469.2.2.2.2.2.2.2.2.2.2.1 bt469.2.2.2.2.2.2.2.2.2.2.2.1 bt469.2.2.2.2.2.2.2.2.2.2.2.2) else (if a4 < (wrap64 (-bt469.2.2.2.2.2.2.2.1)) then (drumlinelaw8_ClockApart.j0 k a1 a2 a3 a4 true bt469.1 bt469.2.1 bt469.2.2.1 bt469.2.2.2.1 bt469.2.2.2.2.1 bt469.2.2.2.2.2.1 bt469.2.2.2.2.2.2.1 bt469.2.2.2.2.2.2.2.1 bt469.2.2.2.2.2.2.2.2.1 bt469.2.2.2.2.2.2.2.2.2.1 bt469.2.2.2.2.2.2.2.2.2.2.1 bt469.2.2.2.2.2.2.2.2.2.2.2.1 bt469.2.2.2.2.2.2.2.2.2.2.2.2) else (drumlinelaw8_ClockApart.j0 k a1 a2 a3 a4 (decide (a4 > bt469.2.2.2.2.2.2.2.1)) bt469.1 bt469.2.1 bt469.2.2.1 bt469.2.2.2.1 bt469.2.2.2.2.1 bt469.2.2.2.2.2.1 bt469.2.2.2.2.2.2.1 bt469.2.2.2.2.2.2.2.1 bt469.2.2.2.2.2.2.2.2.1 bt469.2.2.2.2.2.2.2.2.2.1 bt469.2.2.2.2.2.2.2.2.2.2.1 bt469.2.2.2.2.2.2.2.2.2.2.2.1 bt469.2.2.2.2.2.2.2.2.2.2.2.2))))))))) else (some false)) = some r := H
 have A6 := Aside0.mk A60
 clear A60
 by_cases c7 : t468 = true
 ·subst c7
  have H1 : ((drumlineref26_Made.f a0).bind fun bt469 => (if a1 < 0 then (drumlinelaw8_ClockApart.j0 k a1 a2 a3 a4 true bt469.1 bt469.2.1 bt469.2.2.1 bt469.2.2.2.1 bt469.2.2.2.2.1 bt469.2.2.2.2.2.1 bt469.2.2.2.2.2.2.1 bt469.2.2.2.2.2.2.2.1 bt469.2.2.2.2.2.2.2.2.1 bt469.2.2.2.2.2.2.2.2.2.1 bt469.2.2.2.2.2.2.2.2.2.2.1 bt469.2.2.2.2.2.2.2.2.2.2.2.1 bt469.2.2.2.2.2.2.2.2.2.2.2.2) else (if a1 > bt469.2.2.1 then (drumlinelaw8_ClockApart.j0 k a1 a2 a3 a4 true bt469.1 bt469.2.1 bt469.2.2.1 bt469.2.2.2.1 bt469.2.2.2.2.1 bt469.2.2.2.2.2.1 bt469.2.2.2.2.2.2.1 bt469.2.2.2.2.2.2.2.1 bt469.2.2.2.2.2.2.2.2.1 bt469.2.2.2.2.2.2.2.2.2.1 bt469.2.2.2.2.2.2.2.2.2.2.1 bt469.2.2.2.2.2.2.2.2.2.2.2.1 bt469.2.2.2.2.2.2.2.2.2.2.2.2) else (if a2 < (wrap64 (-bt469.2.2.2.2.2.2.1)) then (drumlinelaw8_ClockApart.j0 k a1 a2 a3 a4 true bt469.1 bt469.2.1 bt469.2.2.1 bt469.2.2.2.1 bt469.2.2.2.2.1 bt469.2.2.2.2.2.1 bt469.2.2.2.2.2.2.1 bt469.2.2.2.2.2.2.2.1 bt469.2.2.2.2.2.2.2.2.1 bt469.2.2.2.2.2.2.2.2.2.1 bt469.2.2.2.2.2.2.2.2.2.2.1 bt469.2.2.2.2.2.2.2.2.2.2.2.1 bt469.2.2.2.2.2.2.2.2.2.2.2.2) else (if a2 > bt469.2.2.2.2.2.2.1 then (drumlinelaw8_ClockApart.j0 k a1 a2 a3 a4 true bt469.1 bt469.2.1 bt469.2.2.1 bt469.2.2.2.1 bt469.2.2.2.2.1 bt469.2.2.2.2.2.1 bt469.2.2.2.2.2.2.1 bt469.2.2.2.2.2.2.2.1 bt469.2.2.2.2.2.2.2.2.1 bt469.2.2.2.2.2.2.2.2.2.1 bt469.2.2.2.2.2.2.2.2.2.2.1 bt469.2.2.2.2.2.2.2.2.2.2.2.1 bt469.2.2.2.2.2.2.2.2.2.2.2.2) else (if a3 < (wrap64 (-bt469.2.2.2.2.2.2.1)) then (drumlinelaw8_ClockApart.j0 k a1 a2 a3 a4 true bt469.1 bt469.2.1 bt469.2.2.1 bt469.2.2.2.1 bt469.2.2.2.2.1 bt469.2.2.2.2.2.1 bt469.2.2.2.2.2.2.1 bt469.2.2.2.2.2.2.2.1 bt469.2.2.2.2.2.2.2.2.1 bt469.2.2.2.2.2.2.2.2.2.1 bt469.2.2.2.2.2.2.2.2.2.2.1 bt469.2.2.2.2.2.2.2.2.2.2.2.1 bt469.2.2.2.2.2.2.2.2.2.2.2.2) else (if a3 > bt469.2.2.2.2.2.2.1 then (drumlinelaw8_ClockApart.j0 k a1 a2 a3 a4 true bt469.1 bt469.2.1 bt469.2.2.1 bt469.2.2.2.1 bt469.2.2.2.2.1 bt469.2.2.2.2.2.1 bt469.2.2.2.2.2.2.1 bt469.2.2.2.2.2.2.2.1 bt469.2.2.2.2.2.2.2.2.1 bt469.2.2.2.2.2.2.2.2.2.1 bt469.2.2.2.2.2.2.2.2.2.2.1 bt469.2.2.2.2.2.2.2.2.2.2.2.1 bt469.2.2.2.2.2.2.2.2.2.2.2.2) else (if a4 < (wrap64 (-bt469.2.2.2.2.2.2.2.1)) then (drumlinelaw8_ClockApart.j0 k a1 a2 a3 a4 true bt469.1 bt469.2.1 bt469.2.2.1 bt469.2.2.2.1 bt469.2.2.2.2.1 bt469.2.2.2.2.2.1 bt469.2.2.2.2.2.2.1 bt469.2.2.2.2.2.2.2.1 bt469.2.2.2.2.2.2.2.2.1 bt469.2.2.2.2.2.2.2.2.2.1 bt469.2.2.2.2.2.2.2.2.2.2.1 bt469.2.2.2.2.2.2.2.2.2.2.2.1 bt469.2.2.2.2.2.2.2.2.2.2.2.2) else (drumlinelaw8_ClockApart.j0 k a1 a2 a3 a4 (decide (a4 > bt469.2.2.2.2.2.2.2.1)) bt469.1 bt469.2.1 bt469.2.2.1 bt469.2.2.2.1 bt469.2.2.2.2.1 bt469.2.2.2.2.2.1 bt469.2.2.2.2.2.2.1 bt469.2.2.2.2.2.2.2.1 bt469.2.2.2.2.2.2.2.2.1 bt469.2.2.2.2.2.2.2.2.2.1 bt469.2.2.2.2.2.2.2.2.2.2.1 bt469.2.2.2.2.2.2.2.2.2.2.2.1 bt469.2.2.2.2.2.2.2.2.2.2.2.2))))))))) = some r := by rw [if_pos rfl] at H; exact H
  clear H
  have H := H1
  clear H1
  replace H := Option.bind_eq_some_iff.mp H
  obtain ⟨⟨t469, t472, t475, t476, t477, t478, t479, t480, t481, t482, t483, t484, t485⟩, A80, H⟩ := H
  replace H : (if a1 < 0 then (drumlinelaw8_ClockApart.j0 k a1 a2 a3 a4 true t469 t472 t475 t476 t477 t478 t479 t480 t481 t482 t483 t484 t485) else (if a1 > t475 then (drumlinelaw8_ClockApart.j0 k a1 a2 a3 a4 true t469 t472 t475 t476 t477 t478 t479 t480 t481 t482 t483 t484 t485) else (if a2 < (wrap64 (-t479)) then (drumlinelaw8_ClockApart.j0 k a1 a2 a3 a4 true t469 t472 t475 t476 t477 t478 t479 t480 t481 t482 t483 t484 t485) else (if a2 > t479 then (drumlinelaw8_ClockApart.j0 k a1 a2 a3 a4 true t469 t472 t475 t476 t477 t478 t479 t480 t481 t482 t483 t484 t485) else (if a3 < (wrap64 (-t479)) then (drumlinelaw8_ClockApart.j0 k a1 a2 a3 a4 true t469 t472 t475 t476 t477 t478 t479 t480 t481 t482 t483 t484 t485) else (if a3 > t479 then (drumlinelaw8_ClockApart.j0 k a1 a2 a3 a4 true t469 t472 t475 t476 t477 t478 t479 t480 t481 t482 t483 t484 t485) else (if a4 < (wrap64 (-t480)) then (drumlinelaw8_ClockApart.j0 k a1 a2 a3 a4 true t469 t472 t475 t476 t477 t478 t479 t480 t481 t482 t483 t484 t485) else (drumlinelaw8_ClockApart.j0 k a1 a2 a3 a4 (decide (a4 > t480)) t469 t472 t475 t476 t477 t478 t479 t480 t481 t482 t483 t484 t485)))))))) = some r := H
  have A8 := Aside0.mk A80
  clear A80
  have HC9 := Aside0.mk H
  clear H
  go_enter Tryd.func7, Tryd.ntmps7
  go_upto_region 4 with (first | ((with_reducible refine gate_callee (f := 21) rfl ?_); refine goesL_ (some 13) rfl rfl Tryd.func21 (by kernel_rfl) rfl #[] rfl (by (try simp only [List.map_toArray, List.map_cons, List.map_nil]); first | done | rfl | (simp only [List.length_drop, List.length_take]; rfl)) ?_; (with_reducible refine (drumlinelaw8_alive.calls  true _ A6.out).mono ?_); rintro e w' ⟨rfl, ⟨nd, rfl⟩⟩; refine ⟨_, rfl, ?_⟩) | ((with_reducible refine gate_callee (f := 20) rfl ?_); refine goesL_ (some 16) rfl rfl Tryd.func20 (by kernel_rfl) rfl #[.int .i64 a0] rfl (by (try simp only [List.map_toArray, List.map_cons, List.map_nil]); first | done | rfl | (simp only [List.length_drop, List.length_take]; rfl)) ?_; (with_reducible refine (drumlineref26_Made.calls a0 t469 t472 t475 t476 t477 t478 t479 t480 t481 t482 t483 t484 t485 _ A8.out).mono ?_); rintro e w10 ⟨v470, v473, rfl, ho0, ho1, hb⟩; refine ⟨_, rfl, ?_⟩; have n0_ := Aside0.mk (Kd.R_lower ho0 (below_size (by repeat (first | (with_reducible first | exact HB.out | apply below_alloc | apply pw_below_drewN | apply below_drew1) | exact HB.out)))); have n1_ := Aside0.mk (Kd.R_lower ho1 (below_size (by repeat (first | (with_reducible first | exact HB.out | apply below_alloc | apply pw_below_drewN | apply below_drew1) | exact HB.out)))); have n2_ := Aside0.mk (below_step (by repeat (first | (with_reducible first | exact HB.out | apply below_alloc | apply pw_below_drewN | apply below_drew1) | exact HB.out)) hb); clear HB; have HO471 := n0_; have HO474 := n1_; have HB := n2_; clear n0_ n1_ n2_; (try clear hb); (try clear hb2); (try clear hk); (try clear hi); (try clear ho0); (try clear ho1)) | ((with_reducible refine gate_dst (N := 11) rfl ?_); refine box_event ?hg (N := 11) ?hd (cs := #[.slice none 0 0, .slice none 0 0, .int .i64 0, .int .i64 0, .int .i64 0, .int .i64 0, .int .i64 0, .int .i64 0, .int .i64 0, .int .i64 0, .int .i64 0, .int .i64 0, .int .i64 0]) (t := 25) ?hr ?_; (case hd => rfl); (case hg => rfl); (case hr => first | (go_simp; done) | (go_simp; rfl)); intro gb486 hg w11 hbox hb; have n0_ := Aside0.mk (Kd.R_below (by (with_reducible repeat (first | apply Kd.R_alloc | apply Kd.R_drewN | apply Kd.R_drew)); exact HO471.out) hb); have n1_ := Aside0.mk (Kd.R_below (by (with_reducible repeat (first | apply Kd.R_alloc | apply Kd.R_drewN | apply Kd.R_drew)); exact HO474.out) hb); have n2_ := Aside0.mk (below_step (by repeat (first | (with_reducible first | exact HB.out | apply below_alloc | apply pw_below_drewN | apply below_drew1) | exact HB.out)) hb); have n3_ := Aside0.mk (hbox); have n4_ := Aside0.mk ((by rw [hg]; exact (below_size (by repeat (first | (with_reducible first | exact HB.out | apply below_alloc | apply pw_below_drewN | apply below_drew1) | exact HB.out))) : w.heap.size ≤ gb486)); have n5_ := Aside0.mk ((by rw [hg]; exact (below_size (by repeat (first | (with_reducible first | exact HB.out | apply below_alloc | apply pw_below_drewN | apply below_drew1) | exact HB.out))) : w.heap.size ≤ gb486)); clear HO471; clear HO474; clear HB; have HO471 := n0_; have HO474 := n1_; have HB := n2_; have BK486 := n3_; have GW486 := n4_; have GE486 := n5_; clear n0_ n1_ n2_ n3_ n4_ n5_; clear hb hbox hg; obtain ⟨Ao12, co12, eo12⟩ := Kd.R_slice HO471.out; subst eo12; obtain ⟨hcz13_0, hcz13_1, hcz13_2, hcz13_3, hcz13_4, hcz13_5, hcz13_6, hcz13_7, hcz13_8, hcz13_9, hcz13_10, hcz13_11, hcz13_12⟩ := cellsK13 BK486.out; obtain ⟨hfz13_0, hfz13_1, hfz13_2, hfz13_3, hfz13_4, hfz13_5, hfz13_6, hfz13_7, hfz13_8, hfz13_9, hfz13_10, hfz13_11, hfz13_12⟩ := frozK13 BK486.out; obtain ⟨Ao14, co14, eo14⟩ := Kd.R_slice HO474.out; subst eo14))
  (try simp only [Act.put, List.setIfInBounds_toArray, List.set_cons_zero, List.set_cons_succ])
  go_cut [63] (fun v63 wc => ∃ (kq : Nat) (x63_8 : Bool), v63 = .bool x63_8 ∧ Aside0 (drumlinelaw8_ClockApart.j0 kq a1 a2 a3 a4 x63_8 t469 t472 t475 t476 t477 t478 t479 t480 t481 t482 t483 t484 t485 = some r) ∧ Aside0 (kq ≤ k) ∧ Aside0 (Kd.R k60 60 wc w.heap.size (fun _ => True) (.slice Ao12 t469.length co12) t469) ∧ Aside0 (Kd.R k37 37 wc w.heap.size (fun _ => True) (.slice Ao14 t472.length co14) t472) ∧ Aside0 (wc.heap[gb486]? = some (.cells #[(.slice Ao12 t469.length co12), (.slice Ao14 t472.length co14), .int .i64 t475, .int .i64 t476, .int .i64 t477, .int .i64 t478, .int .i64 t479, .int .i64 t480, .int .i64 t481, .int .i64 t482, .int .i64 t483, .int .i64 t484, .int .i64 t485] 25 (0, 0))) ∧ Aside0 (Below w.heap.size w wc))
  case first =>
   have H := HC9.out
   clear HC9
   by_cases c15 : a1 < 0
   ·rw [if_pos c15] at H
    have c15b0 : decide (a1 < 0) = true := decide_eq_true c15
    clear c15
    (first | rw [c15b0] | (simp only [i64_w, i32_w]; rw [c15b0]) | skip)
    have H' := Aside0.mk H
    clear H
    go_wp2
    go_meet
    case rel => exact ⟨_, (true), (by first | rfl | (simp; done) | (simp [*]; done) | (have := TNA.out; unfold wrap64; congr 1; omega) | (unfold wrap64; omega)), H', ⟨by first | omega | exact Nat.le_refl _⟩, ⟨by (with_reducible repeat (first | apply Kd.R_alloc | apply Kd.R_drewN | apply Kd.R_drew)); exact Kd.R_mono (Kd.R_far (p := ⟨gb486, 12, none⟩) (Kd.R_far (p := ⟨gb486, 11, none⟩) (Kd.R_far (p := ⟨gb486, 10, none⟩) (Kd.R_far (p := ⟨gb486, 9, none⟩) (Kd.R_far (p := ⟨gb486, 8, none⟩) (Kd.R_far (p := ⟨gb486, 7, none⟩) (Kd.R_far (p := ⟨gb486, 6, none⟩) (Kd.R_far (p := ⟨gb486, 5, none⟩) (Kd.R_far (p := ⟨gb486, 4, none⟩) (Kd.R_far (p := ⟨gb486, 3, none⟩) (Kd.R_far (p := ⟨gb486, 2, none⟩) (Kd.R_far (p := ⟨gb486, 1, none⟩) (Kd.R_far (p := ⟨gb486, 0, none⟩) (Kd.R_types HO471.out BK486.out (by decide)) (fun _ hk => hk.2) (.slice Ao12 t469.length co12)) (fun _ hk => hk.2) (.slice Ao14 t472.length co14)) (fun _ hk => hk.2) (.int .i64 t475)) (fun _ hk => hk.2) (.int .i64 t476)) (fun _ hk => hk.2) (.int .i64 t477)) (fun _ hk => hk.2) (.int .i64 t478)) (fun _ hk => hk.2) (.int .i64 t479)) (fun _ hk => hk.2) (.int .i64 t480)) (fun _ hk => hk.2) (.int .i64 t481)) (fun _ hk => hk.2) (.int .i64 t482)) (fun _ hk => hk.2) (.int .i64 t483)) (fun _ hk => hk.2) (.int .i64 t484)) (fun _ hk => hk.2) (.int .i64 t485)) (fun _ hk => trivial)⟩, ⟨by (with_reducible repeat (first | apply Kd.R_alloc | apply Kd.R_drewN | apply Kd.R_drew)); exact Kd.R_mono (Kd.R_far (p := ⟨gb486, 12, none⟩) (Kd.R_far (p := ⟨gb486, 11, none⟩) (Kd.R_far (p := ⟨gb486, 10, none⟩) (Kd.R_far (p := ⟨gb486, 9, none⟩) (Kd.R_far (p := ⟨gb486, 8, none⟩) (Kd.R_far (p := ⟨gb486, 7, none⟩) (Kd.R_far (p := ⟨gb486, 6, none⟩) (Kd.R_far (p := ⟨gb486, 5, none⟩) (Kd.R_far (p := ⟨gb486, 4, none⟩) (Kd.R_far (p := ⟨gb486, 3, none⟩) (Kd.R_far (p := ⟨gb486, 2, none⟩) (Kd.R_far (p := ⟨gb486, 1, none⟩) (Kd.R_far (p := ⟨gb486, 0, none⟩) (Kd.R_types HO474.out BK486.out (by decide)) (fun _ hk => hk.2) (.slice Ao12 t469.length co12)) (fun _ hk => hk.2) (.slice Ao14 t472.length co14)) (fun _ hk => hk.2) (.int .i64 t475)) (fun _ hk => hk.2) (.int .i64 t476)) (fun _ hk => hk.2) (.int .i64 t477)) (fun _ hk => hk.2) (.int .i64 t478)) (fun _ hk => hk.2) (.int .i64 t479)) (fun _ hk => hk.2) (.int .i64 t480)) (fun _ hk => hk.2) (.int .i64 t481)) (fun _ hk => hk.2) (.int .i64 t482)) (fun _ hk => hk.2) (.int .i64 t483)) (fun _ hk => hk.2) (.int .i64 t484)) (fun _ hk => hk.2) (.int .i64 t485)) (fun _ hk => trivial)⟩, ⟨by (with_reducible repeat (first | refine blk_drewN ?_ _ | refine blk_drew ?_ | refine blk_alloc ?_ _)); refine blk_put (cs := #[.slice Ao12 t469.length co12, .slice Ao14 t472.length co14, .int .i64 t475, .int .i64 t476, .int .i64 t477, .int .i64 t478, .int .i64 t479, .int .i64 t480, .int .i64 t481, .int .i64 t482, .int .i64 t483, .int .i64 t484, .int .i64 0]) ?_ 12 _ rfl; (with_reducible repeat (first | refine blk_drewN ?_ _ | refine blk_drew ?_ | refine blk_alloc ?_ _)); refine blk_put (cs := #[.slice Ao12 t469.length co12, .slice Ao14 t472.length co14, .int .i64 t475, .int .i64 t476, .int .i64 t477, .int .i64 t478, .int .i64 t479, .int .i64 t480, .int .i64 t481, .int .i64 t482, .int .i64 t483, .int .i64 0, .int .i64 0]) ?_ 11 _ rfl; (with_reducible repeat (first | refine blk_drewN ?_ _ | refine blk_drew ?_ | refine blk_alloc ?_ _)); refine blk_put (cs := #[.slice Ao12 t469.length co12, .slice Ao14 t472.length co14, .int .i64 t475, .int .i64 t476, .int .i64 t477, .int .i64 t478, .int .i64 t479, .int .i64 t480, .int .i64 t481, .int .i64 t482, .int .i64 0, .int .i64 0, .int .i64 0]) ?_ 10 _ rfl; (with_reducible repeat (first | refine blk_drewN ?_ _ | refine blk_drew ?_ | refine blk_alloc ?_ _)); refine blk_put (cs := #[.slice Ao12 t469.length co12, .slice Ao14 t472.length co14, .int .i64 t475, .int .i64 t476, .int .i64 t477, .int .i64 t478, .int .i64 t479, .int .i64 t480, .int .i64 t481, .int .i64 0, .int .i64 0, .int .i64 0, .int .i64 0]) ?_ 9 _ rfl; (with_reducible repeat (first | refine blk_drewN ?_ _ | refine blk_drew ?_ | refine blk_alloc ?_ _)); refine blk_put (cs := #[.slice Ao12 t469.length co12, .slice Ao14 t472.length co14, .int .i64 t475, .int .i64 t476, .int .i64 t477, .int .i64 t478, .int .i64 t479, .int .i64 t480, .int .i64 0, .int .i64 0, .int .i64 0, .int .i64 0, .int .i64 0]) ?_ 8 _ rfl; (with_reducible repeat (first | refine blk_drewN ?_ _ | refine blk_drew ?_ | refine blk_alloc ?_ _)); refine blk_put (cs := #[.slice Ao12 t469.length co12, .slice Ao14 t472.length co14, .int .i64 t475, .int .i64 t476, .int .i64 t477, .int .i64 t478, .int .i64 t479, .int .i64 0, .int .i64 0, .int .i64 0, .int .i64 0, .int .i64 0, .int .i64 0]) ?_ 7 _ rfl; (with_reducible repeat (first | refine blk_drewN ?_ _ | refine blk_drew ?_ | refine blk_alloc ?_ _)); refine blk_put (cs := #[.slice Ao12 t469.length co12, .slice Ao14 t472.length co14, .int .i64 t475, .int .i64 t476, .int .i64 t477, .int .i64 t478, .int .i64 0, .int .i64 0, .int .i64 0, .int .i64 0, .int .i64 0, .int .i64 0, .int .i64 0]) ?_ 6 _ rfl; (with_reducible repeat (first | refine blk_drewN ?_ _ | refine blk_drew ?_ | refine blk_alloc ?_ _)); refine blk_put (cs := #[.slice Ao12 t469.length co12, .slice Ao14 t472.length co14, .int .i64 t475, .int .i64 t476, .int .i64 t477, .int .i64 0, .int .i64 0, .int .i64 0, .int .i64 0, .int .i64 0, .int .i64 0, .int .i64 0, .int .i64 0]) ?_ 5 _ rfl; (with_reducible repeat (first | refine blk_drewN ?_ _ | refine blk_drew ?_ | refine blk_alloc ?_ _)); refine blk_put (cs := #[.slice Ao12 t469.length co12, .slice Ao14 t472.length co14, .int .i64 t475, .int .i64 t476, .int .i64 0, .int .i64 0, .int .i64 0, .int .i64 0, .int .i64 0, .int .i64 0, .int .i64 0, .int .i64 0, .int .i64 0]) ?_ 4 _ rfl; (with_reducible repeat (first | refine blk_drewN ?_ _ | refine blk_drew ?_ | refine blk_alloc ?_ _)); refine blk_put (cs := #[.slice Ao12 t469.length co12, .slice Ao14 t472.length co14, .int .i64 t475, .int .i64 0, .int .i64 0, .int .i64 0, .int .i64 0, .int .i64 0, .int .i64 0, .int .i64 0, .int .i64 0, .int .i64 0, .int .i64 0]) ?_ 3 _ rfl; (with_reducible repeat (first | refine blk_drewN ?_ _ | refine blk_drew ?_ | refine blk_alloc ?_ _)); refine blk_put (cs := #[.slice Ao12 t469.length co12, .slice Ao14 t472.length co14, .int .i64 0, .int .i64 0, .int .i64 0, .int .i64 0, .int .i64 0, .int .i64 0, .int .i64 0, .int .i64 0, .int .i64 0, .int .i64 0, .int .i64 0]) ?_ 2 _ rfl; (with_reducible repeat (first | refine blk_drewN ?_ _ | refine blk_drew ?_ | refine blk_alloc ?_ _)); refine blk_put (cs := #[.slice Ao12 t469.length co12, .slice none 0 0, .int .i64 0, .int .i64 0, .int .i64 0, .int .i64 0, .int .i64 0, .int .i64 0, .int .i64 0, .int .i64 0, .int .i64 0, .int .i64 0, .int .i64 0]) ?_ 1 _ rfl; (with_reducible repeat (first | refine blk_drewN ?_ _ | refine blk_drew ?_ | refine blk_alloc ?_ _)); refine blk_put (cs := #[.slice none 0 0, .slice none 0 0, .int .i64 0, .int .i64 0, .int .i64 0, .int .i64 0, .int .i64 0, .int .i64 0, .int .i64 0, .int .i64 0, .int .i64 0, .int .i64 0, .int .i64 0]) ?_ 0 _ rfl; (with_reducible repeat (first | refine blk_drewN ?_ _ | refine blk_drew ?_ | refine blk_alloc ?_ _)); exact BK486.out⟩, ⟨by repeat (first | (with_reducible first | exact HB.out | apply below_alloc | apply pw_below_drewN | apply below_drew1 | refine below_set ?_ GE486.out) | exact HB.out)⟩⟩
   ·rw [if_neg c15] at H
    have c15b0 : decide (a1 < 0) = false := decide_eq_false c15
    clear c15
    (first | rw [c15b0] | (simp only [i64_w, i32_w]; rw [c15b0]) | skip)
    by_cases c16 : a1 > t475
    ·rw [if_pos c16] at H
     have c16b0 : decide (t475 < a1) = true := decide_eq_true c16
     clear c16
     have H' := Aside0.mk H
     clear H
     obtain ⟨hcz17_0, hcz17_1, hcz17_2, hcz17_3, hcz17_4, hcz17_5, hcz17_6, hcz17_7, hcz17_8, hcz17_9, hcz17_10, hcz17_11, hcz17_12⟩ := cellsK13 BK486.out
     obtain ⟨hfz17_0, hfz17_1, hfz17_2, hfz17_3, hfz17_4, hfz17_5, hfz17_6, hfz17_7, hfz17_8, hfz17_9, hfz17_10, hfz17_11, hfz17_12⟩ := frozK13 BK486.out
     go_wp2
     go_meet
     case rel => exact ⟨_, (true), (by first | rfl | (simp; done) | (simp [*]; done) | (have := TNA.out; unfold wrap64; congr 1; omega) | (unfold wrap64; omega)), H', ⟨by first | omega | exact Nat.le_refl _⟩, ⟨by (with_reducible repeat (first | apply Kd.R_alloc | apply Kd.R_drewN | apply Kd.R_drew)); exact Kd.R_mono (Kd.R_far (p := ⟨gb486, 12, none⟩) (Kd.R_far (p := ⟨gb486, 11, none⟩) (Kd.R_far (p := ⟨gb486, 10, none⟩) (Kd.R_far (p := ⟨gb486, 9, none⟩) (Kd.R_far (p := ⟨gb486, 8, none⟩) (Kd.R_far (p := ⟨gb486, 7, none⟩) (Kd.R_far (p := ⟨gb486, 6, none⟩) (Kd.R_far (p := ⟨gb486, 5, none⟩) (Kd.R_far (p := ⟨gb486, 4, none⟩) (Kd.R_far (p := ⟨gb486, 3, none⟩) (Kd.R_far (p := ⟨gb486, 2, none⟩) (Kd.R_far (p := ⟨gb486, 1, none⟩) (Kd.R_far (p := ⟨gb486, 0, none⟩) (Kd.R_types HO471.out BK486.out (by decide)) (fun _ hk => hk.2) (.slice Ao12 t469.length co12)) (fun _ hk => hk.2) (.slice Ao14 t472.length co14)) (fun _ hk => hk.2) (.int .i64 t475)) (fun _ hk => hk.2) (.int .i64 t476)) (fun _ hk => hk.2) (.int .i64 t477)) (fun _ hk => hk.2) (.int .i64 t478)) (fun _ hk => hk.2) (.int .i64 t479)) (fun _ hk => hk.2) (.int .i64 t480)) (fun _ hk => hk.2) (.int .i64 t481)) (fun _ hk => hk.2) (.int .i64 t482)) (fun _ hk => hk.2) (.int .i64 t483)) (fun _ hk => hk.2) (.int .i64 t484)) (fun _ hk => hk.2) (.int .i64 t485)) (fun _ hk => trivial)⟩, ⟨by (with_reducible repeat (first | apply Kd.R_alloc | apply Kd.R_drewN | apply Kd.R_drew)); exact Kd.R_mono (Kd.R_far (p := ⟨gb486, 12, none⟩) (Kd.R_far (p := ⟨gb486, 11, none⟩) (Kd.R_far (p := ⟨gb486, 10, none⟩) (Kd.R_far (p := ⟨gb486, 9, none⟩) (Kd.R_far (p := ⟨gb486, 8, none⟩) (Kd.R_far (p := ⟨gb486, 7, none⟩) (Kd.R_far (p := ⟨gb486, 6, none⟩) (Kd.R_far (p := ⟨gb486, 5, none⟩) (Kd.R_far (p := ⟨gb486, 4, none⟩) (Kd.R_far (p := ⟨gb486, 3, none⟩) (Kd.R_far (p := ⟨gb486, 2, none⟩) (Kd.R_far (p := ⟨gb486, 1, none⟩) (Kd.R_far (p := ⟨gb486, 0, none⟩) (Kd.R_types HO474.out BK486.out (by decide)) (fun _ hk => hk.2) (.slice Ao12 t469.length co12)) (fun _ hk => hk.2) (.slice Ao14 t472.length co14)) (fun _ hk => hk.2) (.int .i64 t475)) (fun _ hk => hk.2) (.int .i64 t476)) (fun _ hk => hk.2) (.int .i64 t477)) (fun _ hk => hk.2) (.int .i64 t478)) (fun _ hk => hk.2) (.int .i64 t479)) (fun _ hk => hk.2) (.int .i64 t480)) (fun _ hk => hk.2) (.int .i64 t481)) (fun _ hk => hk.2) (.int .i64 t482)) (fun _ hk => hk.2) (.int .i64 t483)) (fun _ hk => hk.2) (.int .i64 t484)) (fun _ hk => hk.2) (.int .i64 t485)) (fun _ hk => trivial)⟩, ⟨by (with_reducible repeat (first | refine blk_drewN ?_ _ | refine blk_drew ?_ | refine blk_alloc ?_ _)); refine blk_put (cs := #[.slice Ao12 t469.length co12, .slice Ao14 t472.length co14, .int .i64 t475, .int .i64 t476, .int .i64 t477, .int .i64 t478, .int .i64 t479, .int .i64 t480, .int .i64 t481, .int .i64 t482, .int .i64 t483, .int .i64 t484, .int .i64 0]) ?_ 12 _ rfl; (with_reducible repeat (first | refine blk_drewN ?_ _ | refine blk_drew ?_ | refine blk_alloc ?_ _)); refine blk_put (cs := #[.slice Ao12 t469.length co12, .slice Ao14 t472.length co14, .int .i64 t475, .int .i64 t476, .int .i64 t477, .int .i64 t478, .int .i64 t479, .int .i64 t480, .int .i64 t481, .int .i64 t482, .int .i64 t483, .int .i64 0, .int .i64 0]) ?_ 11 _ rfl; (with_reducible repeat (first | refine blk_drewN ?_ _ | refine blk_drew ?_ | refine blk_alloc ?_ _)); refine blk_put (cs := #[.slice Ao12 t469.length co12, .slice Ao14 t472.length co14, .int .i64 t475, .int .i64 t476, .int .i64 t477, .int .i64 t478, .int .i64 t479, .int .i64 t480, .int .i64 t481, .int .i64 t482, .int .i64 0, .int .i64 0, .int .i64 0]) ?_ 10 _ rfl; (with_reducible repeat (first | refine blk_drewN ?_ _ | refine blk_drew ?_ | refine blk_alloc ?_ _)); refine blk_put (cs := #[.slice Ao12 t469.length co12, .slice Ao14 t472.length co14, .int .i64 t475, .int .i64 t476, .int .i64 t477, .int .i64 t478, .int .i64 t479, .int .i64 t480, .int .i64 t481, .int .i64 0, .int .i64 0, .int .i64 0, .int .i64 0]) ?_ 9 _ rfl; (with_reducible repeat (first | refine blk_drewN ?_ _ | refine blk_drew ?_ | refine blk_alloc ?_ _)); refine blk_put (cs := #[.slice Ao12 t469.length co12, .slice Ao14 t472.length co14, .int .i64 t475, .int .i64 t476, .int .i64 t477, .int .i64 t478, .int .i64 t479, .int .i64 t480, .int .i64 0, .int .i64 0, .int .i64 0, .int .i64 0, .int .i64 0]) ?_ 8 _ rfl; (with_reducible repeat (first | refine blk_drewN ?_ _ | refine blk_drew ?_ | refine blk_alloc ?_ _)); refine blk_put (cs := #[.slice Ao12 t469.length co12, .slice Ao14 t472.length co14, .int .i64 t475, .int .i64 t476, .int .i64 t477, .int .i64 t478, .int .i64 t479, .int .i64 0, .int .i64 0, .int .i64 0, .int .i64 0, .int .i64 0, .int .i64 0]) ?_ 7 _ rfl; (with_reducible repeat (first | refine blk_drewN ?_ _ | refine blk_drew ?_ | refine blk_alloc ?_ _)); refine blk_put (cs := #[.slice Ao12 t469.length co12, .slice Ao14 t472.length co14, .int .i64 t475, .int .i64 t476, .int .i64 t477, .int .i64 t478, .int .i64 0, .int .i64 0, .int .i64 0, .int .i64 0, .int .i64 0, .int .i64 0, .int .i64 0]) ?_ 6 _ rfl; (with_reducible repeat (first | refine blk_drewN ?_ _ | refine blk_drew ?_ | refine blk_alloc ?_ _)); refine blk_put (cs := #[.slice Ao12 t469.length co12, .slice Ao14 t472.length co14, .int .i64 t475, .int .i64 t476, .int .i64 t477, .int .i64 0, .int .i64 0, .int .i64 0, .int .i64 0, .int .i64 0, .int .i64 0, .int .i64 0, .int .i64 0]) ?_ 5 _ rfl; (with_reducible repeat (first | refine blk_drewN ?_ _ | refine blk_drew ?_ | refine blk_alloc ?_ _)); refine blk_put (cs := #[.slice Ao12 t469.length co12, .slice Ao14 t472.length co14, .int .i64 t475, .int .i64 t476, .int .i64 0, .int .i64 0, .int .i64 0, .int .i64 0, .int .i64 0, .int .i64 0, .int .i64 0, .int .i64 0, .int .i64 0]) ?_ 4 _ rfl; (with_reducible repeat (first | refine blk_drewN ?_ _ | refine blk_drew ?_ | refine blk_alloc ?_ _)); refine blk_put (cs := #[.slice Ao12 t469.length co12, .slice Ao14 t472.length co14, .int .i64 t475, .int .i64 0, .int .i64 0, .int .i64 0, .int .i64 0, .int .i64 0, .int .i64 0, .int .i64 0, .int .i64 0, .int .i64 0, .int .i64 0]) ?_ 3 _ rfl; (with_reducible repeat (first | refine blk_drewN ?_ _ | refine blk_drew ?_ | refine blk_alloc ?_ _)); refine blk_put (cs := #[.slice Ao12 t469.length co12, .slice Ao14 t472.length co14, .int .i64 0, .int .i64 0, .int .i64 0, .int .i64 0, .int .i64 0, .int .i64 0, .int .i64 0, .int .i64 0, .int .i64 0, .int .i64 0, .int .i64 0]) ?_ 2 _ rfl; (with_reducible repeat (first | refine blk_drewN ?_ _ | refine blk_drew ?_ | refine blk_alloc ?_ _)); refine blk_put (cs := #[.slice Ao12 t469.length co12, .slice none 0 0, .int .i64 0, .int .i64 0, .int .i64 0, .int .i64 0, .int .i64 0, .int .i64 0, .int .i64 0, .int .i64 0, .int .i64 0, .int .i64 0, .int .i64 0]) ?_ 1 _ rfl; (with_reducible repeat (first | refine blk_drewN ?_ _ | refine blk_drew ?_ | refine blk_alloc ?_ _)); refine blk_put (cs := #[.slice none 0 0, .slice none 0 0, .int .i64 0, .int .i64 0, .int .i64 0, .int .i64 0, .int .i64 0, .int .i64 0, .int .i64 0, .int .i64 0, .int .i64 0, .int .i64 0, .int .i64 0]) ?_ 0 _ rfl; (with_reducible repeat (first | refine blk_drewN ?_ _ | refine blk_drew ?_ | refine blk_alloc ?_ _)); exact BK486.out⟩, ⟨by repeat (first | (with_reducible first | exact HB.out | apply below_alloc | apply pw_below_drewN | apply below_drew1 | refine below_set ?_ GE486.out) | exact HB.out)⟩⟩
    ·rw [if_neg c16] at H
     have c16b0 : decide (t475 < a1) = false := decide_eq_false c16
     clear c16
     by_cases c18 : a2 < (wrap64 (-t479))
     ·rw [if_pos c18] at H
      have c18b0 : decide (a2 < (wrap64 (-t479))) = true := decide_eq_true c18
      clear c18
      have H' := Aside0.mk H
      clear H
      obtain ⟨hcz19_0, hcz19_1, hcz19_2, hcz19_3, hcz19_4, hcz19_5, hcz19_6, hcz19_7, hcz19_8, hcz19_9, hcz19_10, hcz19_11, hcz19_12⟩ := cellsK13 BK486.out
      obtain ⟨hfz19_0, hfz19_1, hfz19_2, hfz19_3, hfz19_4, hfz19_5, hfz19_6, hfz19_7, hfz19_8, hfz19_9, hfz19_10, hfz19_11, hfz19_12⟩ := frozK13 BK486.out
      go_wp2
      go_meet
      case rel => exact ⟨_, (true), (by first | rfl | (simp; done) | (simp [*]; done) | (have := TNA.out; unfold wrap64; congr 1; omega) | (unfold wrap64; omega)), H', ⟨by first | omega | exact Nat.le_refl _⟩, ⟨by (with_reducible repeat (first | apply Kd.R_alloc | apply Kd.R_drewN | apply Kd.R_drew)); exact Kd.R_mono (Kd.R_far (p := ⟨gb486, 12, none⟩) (Kd.R_far (p := ⟨gb486, 11, none⟩) (Kd.R_far (p := ⟨gb486, 10, none⟩) (Kd.R_far (p := ⟨gb486, 9, none⟩) (Kd.R_far (p := ⟨gb486, 8, none⟩) (Kd.R_far (p := ⟨gb486, 7, none⟩) (Kd.R_far (p := ⟨gb486, 6, none⟩) (Kd.R_far (p := ⟨gb486, 5, none⟩) (Kd.R_far (p := ⟨gb486, 4, none⟩) (Kd.R_far (p := ⟨gb486, 3, none⟩) (Kd.R_far (p := ⟨gb486, 2, none⟩) (Kd.R_far (p := ⟨gb486, 1, none⟩) (Kd.R_far (p := ⟨gb486, 0, none⟩) (Kd.R_types HO471.out BK486.out (by decide)) (fun _ hk => hk.2) (.slice Ao12 t469.length co12)) (fun _ hk => hk.2) (.slice Ao14 t472.length co14)) (fun _ hk => hk.2) (.int .i64 t475)) (fun _ hk => hk.2) (.int .i64 t476)) (fun _ hk => hk.2) (.int .i64 t477)) (fun _ hk => hk.2) (.int .i64 t478)) (fun _ hk => hk.2) (.int .i64 t479)) (fun _ hk => hk.2) (.int .i64 t480)) (fun _ hk => hk.2) (.int .i64 t481)) (fun _ hk => hk.2) (.int .i64 t482)) (fun _ hk => hk.2) (.int .i64 t483)) (fun _ hk => hk.2) (.int .i64 t484)) (fun _ hk => hk.2) (.int .i64 t485)) (fun _ hk => trivial)⟩, ⟨by (with_reducible repeat (first | apply Kd.R_alloc | apply Kd.R_drewN | apply Kd.R_drew)); exact Kd.R_mono (Kd.R_far (p := ⟨gb486, 12, none⟩) (Kd.R_far (p := ⟨gb486, 11, none⟩) (Kd.R_far (p := ⟨gb486, 10, none⟩) (Kd.R_far (p := ⟨gb486, 9, none⟩) (Kd.R_far (p := ⟨gb486, 8, none⟩) (Kd.R_far (p := ⟨gb486, 7, none⟩) (Kd.R_far (p := ⟨gb486, 6, none⟩) (Kd.R_far (p := ⟨gb486, 5, none⟩) (Kd.R_far (p := ⟨gb486, 4, none⟩) (Kd.R_far (p := ⟨gb486, 3, none⟩) (Kd.R_far (p := ⟨gb486, 2, none⟩) (Kd.R_far (p := ⟨gb486, 1, none⟩) (Kd.R_far (p := ⟨gb486, 0, none⟩) (Kd.R_types HO474.out BK486.out (by decide)) (fun _ hk => hk.2) (.slice Ao12 t469.length co12)) (fun _ hk => hk.2) (.slice Ao14 t472.length co14)) (fun _ hk => hk.2) (.int .i64 t475)) (fun _ hk => hk.2) (.int .i64 t476)) (fun _ hk => hk.2) (.int .i64 t477)) (fun _ hk => hk.2) (.int .i64 t478)) (fun _ hk => hk.2) (.int .i64 t479)) (fun _ hk => hk.2) (.int .i64 t480)) (fun _ hk => hk.2) (.int .i64 t481)) (fun _ hk => hk.2) (.int .i64 t482)) (fun _ hk => hk.2) (.int .i64 t483)) (fun _ hk => hk.2) (.int .i64 t484)) (fun _ hk => hk.2) (.int .i64 t485)) (fun _ hk => trivial)⟩, ⟨by (with_reducible repeat (first | refine blk_drewN ?_ _ | refine blk_drew ?_ | refine blk_alloc ?_ _)); refine blk_put (cs := #[.slice Ao12 t469.length co12, .slice Ao14 t472.length co14, .int .i64 t475, .int .i64 t476, .int .i64 t477, .int .i64 t478, .int .i64 t479, .int .i64 t480, .int .i64 t481, .int .i64 t482, .int .i64 t483, .int .i64 t484, .int .i64 0]) ?_ 12 _ rfl; (with_reducible repeat (first | refine blk_drewN ?_ _ | refine blk_drew ?_ | refine blk_alloc ?_ _)); refine blk_put (cs := #[.slice Ao12 t469.length co12, .slice Ao14 t472.length co14, .int .i64 t475, .int .i64 t476, .int .i64 t477, .int .i64 t478, .int .i64 t479, .int .i64 t480, .int .i64 t481, .int .i64 t482, .int .i64 t483, .int .i64 0, .int .i64 0]) ?_ 11 _ rfl; (with_reducible repeat (first | refine blk_drewN ?_ _ | refine blk_drew ?_ | refine blk_alloc ?_ _)); refine blk_put (cs := #[.slice Ao12 t469.length co12, .slice Ao14 t472.length co14, .int .i64 t475, .int .i64 t476, .int .i64 t477, .int .i64 t478, .int .i64 t479, .int .i64 t480, .int .i64 t481, .int .i64 t482, .int .i64 0, .int .i64 0, .int .i64 0]) ?_ 10 _ rfl; (with_reducible repeat (first | refine blk_drewN ?_ _ | refine blk_drew ?_ | refine blk_alloc ?_ _)); refine blk_put (cs := #[.slice Ao12 t469.length co12, .slice Ao14 t472.length co14, .int .i64 t475, .int .i64 t476, .int .i64 t477, .int .i64 t478, .int .i64 t479, .int .i64 t480, .int .i64 t481, .int .i64 0, .int .i64 0, .int .i64 0, .int .i64 0]) ?_ 9 _ rfl; (with_reducible repeat (first | refine blk_drewN ?_ _ | refine blk_drew ?_ | refine blk_alloc ?_ _)); refine blk_put (cs := #[.slice Ao12 t469.length co12, .slice Ao14 t472.length co14, .int .i64 t475, .int .i64 t476, .int .i64 t477, .int .i64 t478, .int .i64 t479, .int .i64 t480, .int .i64 0, .int .i64 0, .int .i64 0, .int .i64 0, .int .i64 0]) ?_ 8 _ rfl; (with_reducible repeat (first | refine blk_drewN ?_ _ | refine blk_drew ?_ | refine blk_alloc ?_ _)); refine blk_put (cs := #[.slice Ao12 t469.length co12, .slice Ao14 t472.length co14, .int .i64 t475, .int .i64 t476, .int .i64 t477, .int .i64 t478, .int .i64 t479, .int .i64 0, .int .i64 0, .int .i64 0, .int .i64 0, .int .i64 0, .int .i64 0]) ?_ 7 _ rfl; (with_reducible repeat (first | refine blk_drewN ?_ _ | refine blk_drew ?_ | refine blk_alloc ?_ _)); refine blk_put (cs := #[.slice Ao12 t469.length co12, .slice Ao14 t472.length co14, .int .i64 t475, .int .i64 t476, .int .i64 t477, .int .i64 t478, .int .i64 0, .int .i64 0, .int .i64 0, .int .i64 0, .int .i64 0, .int .i64 0, .int .i64 0]) ?_ 6 _ rfl; (with_reducible repeat (first | refine blk_drewN ?_ _ | refine blk_drew ?_ | refine blk_alloc ?_ _)); refine blk_put (cs := #[.slice Ao12 t469.length co12, .slice Ao14 t472.length co14, .int .i64 t475, .int .i64 t476, .int .i64 t477, .int .i64 0, .int .i64 0, .int .i64 0, .int .i64 0, .int .i64 0, .int .i64 0, .int .i64 0, .int .i64 0]) ?_ 5 _ rfl; (with_reducible repeat (first | refine blk_drewN ?_ _ | refine blk_drew ?_ | refine blk_alloc ?_ _)); refine blk_put (cs := #[.slice Ao12 t469.length co12, .slice Ao14 t472.length co14, .int .i64 t475, .int .i64 t476, .int .i64 0, .int .i64 0, .int .i64 0, .int .i64 0, .int .i64 0, .int .i64 0, .int .i64 0, .int .i64 0, .int .i64 0]) ?_ 4 _ rfl; (with_reducible repeat (first | refine blk_drewN ?_ _ | refine blk_drew ?_ | refine blk_alloc ?_ _)); refine blk_put (cs := #[.slice Ao12 t469.length co12, .slice Ao14 t472.length co14, .int .i64 t475, .int .i64 0, .int .i64 0, .int .i64 0, .int .i64 0, .int .i64 0, .int .i64 0, .int .i64 0, .int .i64 0, .int .i64 0, .int .i64 0]) ?_ 3 _ rfl; (with_reducible repeat (first | refine blk_drewN ?_ _ | refine blk_drew ?_ | refine blk_alloc ?_ _)); refine blk_put (cs := #[.slice Ao12 t469.length co12, .slice Ao14 t472.length co14, .int .i64 0, .int .i64 0, .int .i64 0, .int .i64 0, .int .i64 0, .int .i64 0, .int .i64 0, .int .i64 0, .int .i64 0, .int .i64 0, .int .i64 0]) ?_ 2 _ rfl; (with_reducible repeat (first | refine blk_drewN ?_ _ | refine blk_drew ?_ | refine blk_alloc ?_ _)); refine blk_put (cs := #[.slice Ao12 t469.length co12, .slice none 0 0, .int .i64 0, .int .i64 0, .int .i64 0, .int .i64 0, .int .i64 0, .int .i64 0, .int .i64 0, .int .i64 0, .int .i64 0, .int .i64 0, .int .i64 0]) ?_ 1 _ rfl; (with_reducible repeat (first | refine blk_drewN ?_ _ | refine blk_drew ?_ | refine blk_alloc ?_ _)); refine blk_put (cs := #[.slice none 0 0, .slice none 0 0, .int .i64 0, .int .i64 0, .int .i64 0, .int .i64 0, .int .i64 0, .int .i64 0, .int .i64 0, .int .i64 0, .int .i64 0, .int .i64 0, .int .i64 0]) ?_ 0 _ rfl; (with_reducible repeat (first | refine blk_drewN ?_ _ | refine blk_drew ?_ | refine blk_alloc ?_ _)); exact BK486.out⟩, ⟨by repeat (first | (with_reducible first | exact HB.out | apply below_alloc | apply pw_below_drewN | apply below_drew1 | refine below_set ?_ GE486.out) | exact HB.out)⟩⟩
     ·rw [if_neg c18] at H
      have c18b0 : decide (a2 < (wrap64 (-t479))) = false := decide_eq_false c18
      clear c18
      by_cases c20 : a2 > t479
      ·rw [if_pos c20] at H
       have c20b0 : decide (t479 < a2) = true := decide_eq_true c20
       clear c20
       have H' := Aside0.mk H
       clear H
       obtain ⟨hcz21_0, hcz21_1, hcz21_2, hcz21_3, hcz21_4, hcz21_5, hcz21_6, hcz21_7, hcz21_8, hcz21_9, hcz21_10, hcz21_11, hcz21_12⟩ := cellsK13 BK486.out
       obtain ⟨hfz21_0, hfz21_1, hfz21_2, hfz21_3, hfz21_4, hfz21_5, hfz21_6, hfz21_7, hfz21_8, hfz21_9, hfz21_10, hfz21_11, hfz21_12⟩ := frozK13 BK486.out
       go_wp2
       go_meet
       case rel => exact ⟨_, (true), (by first | rfl | (simp; done) | (simp [*]; done) | (have := TNA.out; unfold wrap64; congr 1; omega) | (unfold wrap64; omega)), H', ⟨by first | omega | exact Nat.le_refl _⟩, ⟨by (with_reducible repeat (first | apply Kd.R_alloc | apply Kd.R_drewN | apply Kd.R_drew)); exact Kd.R_mono (Kd.R_far (p := ⟨gb486, 12, none⟩) (Kd.R_far (p := ⟨gb486, 11, none⟩) (Kd.R_far (p := ⟨gb486, 10, none⟩) (Kd.R_far (p := ⟨gb486, 9, none⟩) (Kd.R_far (p := ⟨gb486, 8, none⟩) (Kd.R_far (p := ⟨gb486, 7, none⟩) (Kd.R_far (p := ⟨gb486, 6, none⟩) (Kd.R_far (p := ⟨gb486, 5, none⟩) (Kd.R_far (p := ⟨gb486, 4, none⟩) (Kd.R_far (p := ⟨gb486, 3, none⟩) (Kd.R_far (p := ⟨gb486, 2, none⟩) (Kd.R_far (p := ⟨gb486, 1, none⟩) (Kd.R_far (p := ⟨gb486, 0, none⟩) (Kd.R_types HO471.out BK486.out (by decide)) (fun _ hk => hk.2) (.slice Ao12 t469.length co12)) (fun _ hk => hk.2) (.slice Ao14 t472.length co14)) (fun _ hk => hk.2) (.int .i64 t475)) (fun _ hk => hk.2) (.int .i64 t476)) (fun _ hk => hk.2) (.int .i64 t477)) (fun _ hk => hk.2) (.int .i64 t478)) (fun _ hk => hk.2) (.int .i64 t479)) (fun _ hk => hk.2) (.int .i64 t480)) (fun _ hk => hk.2) (.int .i64 t481)) (fun _ hk => hk.2) (.int .i64 t482)) (fun _ hk => hk.2) (.int .i64 t483)) (fun _ hk => hk.2) (.int .i64 t484)) (fun _ hk => hk.2) (.int .i64 t485)) (fun _ hk => trivial)⟩, ⟨by (with_reducible repeat (first | apply Kd.R_alloc | apply Kd.R_drewN | apply Kd.R_drew)); exact Kd.R_mono (Kd.R_far (p := ⟨gb486, 12, none⟩) (Kd.R_far (p := ⟨gb486, 11, none⟩) (Kd.R_far (p := ⟨gb486, 10, none⟩) (Kd.R_far (p := ⟨gb486, 9, none⟩) (Kd.R_far (p := ⟨gb486, 8, none⟩) (Kd.R_far (p := ⟨gb486, 7, none⟩) (Kd.R_far (p := ⟨gb486, 6, none⟩) (Kd.R_far (p := ⟨gb486, 5, none⟩) (Kd.R_far (p := ⟨gb486, 4, none⟩) (Kd.R_far (p := ⟨gb486, 3, none⟩) (Kd.R_far (p := ⟨gb486, 2, none⟩) (Kd.R_far (p := ⟨gb486, 1, none⟩) (Kd.R_far (p := ⟨gb486, 0, none⟩) (Kd.R_types HO474.out BK486.out (by decide)) (fun _ hk => hk.2) (.slice Ao12 t469.length co12)) (fun _ hk => hk.2) (.slice Ao14 t472.length co14)) (fun _ hk => hk.2) (.int .i64 t475)) (fun _ hk => hk.2) (.int .i64 t476)) (fun _ hk => hk.2) (.int .i64 t477)) (fun _ hk => hk.2) (.int .i64 t478)) (fun _ hk => hk.2) (.int .i64 t479)) (fun _ hk => hk.2) (.int .i64 t480)) (fun _ hk => hk.2) (.int .i64 t481)) (fun _ hk => hk.2) (.int .i64 t482)) (fun _ hk => hk.2) (.int .i64 t483)) (fun _ hk => hk.2) (.int .i64 t484)) (fun _ hk => hk.2) (.int .i64 t485)) (fun _ hk => trivial)⟩, ⟨by (with_reducible repeat (first | refine blk_drewN ?_ _ | refine blk_drew ?_ | refine blk_alloc ?_ _)); refine blk_put (cs := #[.slice Ao12 t469.length co12, .slice Ao14 t472.length co14, .int .i64 t475, .int .i64 t476, .int .i64 t477, .int .i64 t478, .int .i64 t479, .int .i64 t480, .int .i64 t481, .int .i64 t482, .int .i64 t483, .int .i64 t484, .int .i64 0]) ?_ 12 _ rfl; (with_reducible repeat (first | refine blk_drewN ?_ _ | refine blk_drew ?_ | refine blk_alloc ?_ _)); refine blk_put (cs := #[.slice Ao12 t469.length co12, .slice Ao14 t472.length co14, .int .i64 t475, .int .i64 t476, .int .i64 t477, .int .i64 t478, .int .i64 t479, .int .i64 t480, .int .i64 t481, .int .i64 t482, .int .i64 t483, .int .i64 0, .int .i64 0]) ?_ 11 _ rfl; (with_reducible repeat (first | refine blk_drewN ?_ _ | refine blk_drew ?_ | refine blk_alloc ?_ _)); refine blk_put (cs := #[.slice Ao12 t469.length co12, .slice Ao14 t472.length co14, .int .i64 t475, .int .i64 t476, .int .i64 t477, .int .i64 t478, .int .i64 t479, .int .i64 t480, .int .i64 t481, .int .i64 t482, .int .i64 0, .int .i64 0, .int .i64 0]) ?_ 10 _ rfl; (with_reducible repeat (first | refine blk_drewN ?_ _ | refine blk_drew ?_ | refine blk_alloc ?_ _)); refine blk_put (cs := #[.slice Ao12 t469.length co12, .slice Ao14 t472.length co14, .int .i64 t475, .int .i64 t476, .int .i64 t477, .int .i64 t478, .int .i64 t479, .int .i64 t480, .int .i64 t481, .int .i64 0, .int .i64 0, .int .i64 0, .int .i64 0]) ?_ 9 _ rfl; (with_reducible repeat (first | refine blk_drewN ?_ _ | refine blk_drew ?_ | refine blk_alloc ?_ _)); refine blk_put (cs := #[.slice Ao12 t469.length co12, .slice Ao14 t472.length co14, .int .i64 t475, .int .i64 t476, .int .i64 t477, .int .i64 t478, .int .i64 t479, .int .i64 t480, .int .i64 0, .int .i64 0, .int .i64 0, .int .i64 0, .int .i64 0]) ?_ 8 _ rfl; (with_reducible repeat (first | refine blk_drewN ?_ _ | refine blk_drew ?_ | refine blk_alloc ?_ _)); refine blk_put (cs := #[.slice Ao12 t469.length co12, .slice Ao14 t472.length co14, .int .i64 t475, .int .i64 t476, .int .i64 t477, .int .i64 t478, .int .i64 t479, .int .i64 0, .int .i64 0, .int .i64 0, .int .i64 0, .int .i64 0, .int .i64 0]) ?_ 7 _ rfl; (with_reducible repeat (first | refine blk_drewN ?_ _ | refine blk_drew ?_ | refine blk_alloc ?_ _)); refine blk_put (cs := #[.slice Ao12 t469.length co12, .slice Ao14 t472.length co14, .int .i64 t475, .int .i64 t476, .int .i64 t477, .int .i64 t478, .int .i64 0, .int .i64 0, .int .i64 0, .int .i64 0, .int .i64 0, .int .i64 0, .int .i64 0]) ?_ 6 _ rfl; (with_reducible repeat (first | refine blk_drewN ?_ _ | refine blk_drew ?_ | refine blk_alloc ?_ _)); refine blk_put (cs := #[.slice Ao12 t469.length co12, .slice Ao14 t472.length co14, .int .i64 t475, .int .i64 t476, .int .i64 t477, .int .i64 0, .int .i64 0, .int .i64 0, .int .i64 0, .int .i64 0, .int .i64 0, .int .i64 0, .int .i64 0]) ?_ 5 _ rfl; (with_reducible repeat (first | refine blk_drewN ?_ _ | refine blk_drew ?_ | refine blk_alloc ?_ _)); refine blk_put (cs := #[.slice Ao12 t469.length co12, .slice Ao14 t472.length co14, .int .i64 t475, .int .i64 t476, .int .i64 0, .int .i64 0, .int .i64 0, .int .i64 0, .int .i64 0, .int .i64 0, .int .i64 0, .int .i64 0, .int .i64 0]) ?_ 4 _ rfl; (with_reducible repeat (first | refine blk_drewN ?_ _ | refine blk_drew ?_ | refine blk_alloc ?_ _)); refine blk_put (cs := #[.slice Ao12 t469.length co12, .slice Ao14 t472.length co14, .int .i64 t475, .int .i64 0, .int .i64 0, .int .i64 0, .int .i64 0, .int .i64 0, .int .i64 0, .int .i64 0, .int .i64 0, .int .i64 0, .int .i64 0]) ?_ 3 _ rfl; (with_reducible repeat (first | refine blk_drewN ?_ _ | refine blk_drew ?_ | refine blk_alloc ?_ _)); refine blk_put (cs := #[.slice Ao12 t469.length co12, .slice Ao14 t472.length co14, .int .i64 0, .int .i64 0, .int .i64 0, .int .i64 0, .int .i64 0, .int .i64 0, .int .i64 0, .int .i64 0, .int .i64 0, .int .i64 0, .int .i64 0]) ?_ 2 _ rfl; (with_reducible repeat (first | refine blk_drewN ?_ _ | refine blk_drew ?_ | refine blk_alloc ?_ _)); refine blk_put (cs := #[.slice Ao12 t469.length co12, .slice none 0 0, .int .i64 0, .int .i64 0, .int .i64 0, .int .i64 0, .int .i64 0, .int .i64 0, .int .i64 0, .int .i64 0, .int .i64 0, .int .i64 0, .int .i64 0]) ?_ 1 _ rfl; (with_reducible repeat (first | refine blk_drewN ?_ _ | refine blk_drew ?_ | refine blk_alloc ?_ _)); refine blk_put (cs := #[.slice none 0 0, .slice none 0 0, .int .i64 0, .int .i64 0, .int .i64 0, .int .i64 0, .int .i64 0, .int .i64 0, .int .i64 0, .int .i64 0, .int .i64 0, .int .i64 0, .int .i64 0]) ?_ 0 _ rfl; (with_reducible repeat (first | refine blk_drewN ?_ _ | refine blk_drew ?_ | refine blk_alloc ?_ _)); exact BK486.out⟩, ⟨by repeat (first | (with_reducible first | exact HB.out | apply below_alloc | apply pw_below_drewN | apply below_drew1 | refine below_set ?_ GE486.out) | exact HB.out)⟩⟩
      ·rw [if_neg c20] at H
       have c20b0 : decide (t479 < a2) = false := decide_eq_false c20
       clear c20
       by_cases c22 : a3 < (wrap64 (-t479))
       ·rw [if_pos c22] at H
        have c22b0 : decide (a3 < (wrap64 (-t479))) = true := decide_eq_true c22
        clear c22
        have H' := Aside0.mk H
        clear H
        obtain ⟨hcz23_0, hcz23_1, hcz23_2, hcz23_3, hcz23_4, hcz23_5, hcz23_6, hcz23_7, hcz23_8, hcz23_9, hcz23_10, hcz23_11, hcz23_12⟩ := cellsK13 BK486.out
        obtain ⟨hfz23_0, hfz23_1, hfz23_2, hfz23_3, hfz23_4, hfz23_5, hfz23_6, hfz23_7, hfz23_8, hfz23_9, hfz23_10, hfz23_11, hfz23_12⟩ := frozK13 BK486.out
        go_wp2
        go_meet
        case rel => exact ⟨_, (true), (by first | rfl | (simp; done) | (simp [*]; done) | (have := TNA.out; unfold wrap64; congr 1; omega) | (unfold wrap64; omega)), H', ⟨by first | omega | exact Nat.le_refl _⟩, ⟨by (with_reducible repeat (first | apply Kd.R_alloc | apply Kd.R_drewN | apply Kd.R_drew)); exact Kd.R_mono (Kd.R_far (p := ⟨gb486, 12, none⟩) (Kd.R_far (p := ⟨gb486, 11, none⟩) (Kd.R_far (p := ⟨gb486, 10, none⟩) (Kd.R_far (p := ⟨gb486, 9, none⟩) (Kd.R_far (p := ⟨gb486, 8, none⟩) (Kd.R_far (p := ⟨gb486, 7, none⟩) (Kd.R_far (p := ⟨gb486, 6, none⟩) (Kd.R_far (p := ⟨gb486, 5, none⟩) (Kd.R_far (p := ⟨gb486, 4, none⟩) (Kd.R_far (p := ⟨gb486, 3, none⟩) (Kd.R_far (p := ⟨gb486, 2, none⟩) (Kd.R_far (p := ⟨gb486, 1, none⟩) (Kd.R_far (p := ⟨gb486, 0, none⟩) (Kd.R_types HO471.out BK486.out (by decide)) (fun _ hk => hk.2) (.slice Ao12 t469.length co12)) (fun _ hk => hk.2) (.slice Ao14 t472.length co14)) (fun _ hk => hk.2) (.int .i64 t475)) (fun _ hk => hk.2) (.int .i64 t476)) (fun _ hk => hk.2) (.int .i64 t477)) (fun _ hk => hk.2) (.int .i64 t478)) (fun _ hk => hk.2) (.int .i64 t479)) (fun _ hk => hk.2) (.int .i64 t480)) (fun _ hk => hk.2) (.int .i64 t481)) (fun _ hk => hk.2) (.int .i64 t482)) (fun _ hk => hk.2) (.int .i64 t483)) (fun _ hk => hk.2) (.int .i64 t484)) (fun _ hk => hk.2) (.int .i64 t485)) (fun _ hk => trivial)⟩, ⟨by (with_reducible repeat (first | apply Kd.R_alloc | apply Kd.R_drewN | apply Kd.R_drew)); exact Kd.R_mono (Kd.R_far (p := ⟨gb486, 12, none⟩) (Kd.R_far (p := ⟨gb486, 11, none⟩) (Kd.R_far (p := ⟨gb486, 10, none⟩) (Kd.R_far (p := ⟨gb486, 9, none⟩) (Kd.R_far (p := ⟨gb486, 8, none⟩) (Kd.R_far (p := ⟨gb486, 7, none⟩) (Kd.R_far (p := ⟨gb486, 6, none⟩) (Kd.R_far (p := ⟨gb486, 5, none⟩) (Kd.R_far (p := ⟨gb486, 4, none⟩) (Kd.R_far (p := ⟨gb486, 3, none⟩) (Kd.R_far (p := ⟨gb486, 2, none⟩) (Kd.R_far (p := ⟨gb486, 1, none⟩) (Kd.R_far (p := ⟨gb486, 0, none⟩) (Kd.R_types HO474.out BK486.out (by decide)) (fun _ hk => hk.2) (.slice Ao12 t469.length co12)) (fun _ hk => hk.2) (.slice Ao14 t472.length co14)) (fun _ hk => hk.2) (.int .i64 t475)) (fun _ hk => hk.2) (.int .i64 t476)) (fun _ hk => hk.2) (.int .i64 t477)) (fun _ hk => hk.2) (.int .i64 t478)) (fun _ hk => hk.2) (.int .i64 t479)) (fun _ hk => hk.2) (.int .i64 t480)) (fun _ hk => hk.2) (.int .i64 t481)) (fun _ hk => hk.2) (.int .i64 t482)) (fun _ hk => hk.2) (.int .i64 t483)) (fun _ hk => hk.2) (.int .i64 t484)) (fun _ hk => hk.2) (.int .i64 t485)) (fun _ hk => trivial)⟩, ⟨by (with_reducible repeat (first | refine blk_drewN ?_ _ | refine blk_drew ?_ | refine blk_alloc ?_ _)); refine blk_put (cs := #[.slice Ao12 t469.length co12, .slice Ao14 t472.length co14, .int .i64 t475, .int .i64 t476, .int .i64 t477, .int .i64 t478, .int .i64 t479, .int .i64 t480, .int .i64 t481, .int .i64 t482, .int .i64 t483, .int .i64 t484, .int .i64 0]) ?_ 12 _ rfl; (with_reducible repeat (first | refine blk_drewN ?_ _ | refine blk_drew ?_ | refine blk_alloc ?_ _)); refine blk_put (cs := #[.slice Ao12 t469.length co12, .slice Ao14 t472.length co14, .int .i64 t475, .int .i64 t476, .int .i64 t477, .int .i64 t478, .int .i64 t479, .int .i64 t480, .int .i64 t481, .int .i64 t482, .int .i64 t483, .int .i64 0, .int .i64 0]) ?_ 11 _ rfl; (with_reducible repeat (first | refine blk_drewN ?_ _ | refine blk_drew ?_ | refine blk_alloc ?_ _)); refine blk_put (cs := #[.slice Ao12 t469.length co12, .slice Ao14 t472.length co14, .int .i64 t475, .int .i64 t476, .int .i64 t477, .int .i64 t478, .int .i64 t479, .int .i64 t480, .int .i64 t481, .int .i64 t482, .int .i64 0, .int .i64 0, .int .i64 0]) ?_ 10 _ rfl; (with_reducible repeat (first | refine blk_drewN ?_ _ | refine blk_drew ?_ | refine blk_alloc ?_ _)); refine blk_put (cs := #[.slice Ao12 t469.length co12, .slice Ao14 t472.length co14, .int .i64 t475, .int .i64 t476, .int .i64 t477, .int .i64 t478, .int .i64 t479, .int .i64 t480, .int .i64 t481, .int .i64 0, .int .i64 0, .int .i64 0, .int .i64 0]) ?_ 9 _ rfl; (with_reducible repeat (first | refine blk_drewN ?_ _ | refine blk_drew ?_ | refine blk_alloc ?_ _)); refine blk_put (cs := #[.slice Ao12 t469.length co12, .slice Ao14 t472.length co14, .int .i64 t475, .int .i64 t476, .int .i64 t477, .int .i64 t478, .int .i64 t479, .int .i64 t480, .int .i64 0, .int .i64 0, .int .i64 0, .int .i64 0, .int .i64 0]) ?_ 8 _ rfl; (with_reducible repeat (first | refine blk_drewN ?_ _ | refine blk_drew ?_ | refine blk_alloc ?_ _)); refine blk_put (cs := #[.slice Ao12 t469.length co12, .slice Ao14 t472.length co14, .int .i64 t475, .int .i64 t476, .int .i64 t477, .int .i64 t478, .int .i64 t479, .int .i64 0, .int .i64 0, .int .i64 0, .int .i64 0, .int .i64 0, .int .i64 0]) ?_ 7 _ rfl; (with_reducible repeat (first | refine blk_drewN ?_ _ | refine blk_drew ?_ | refine blk_alloc ?_ _)); refine blk_put (cs := #[.slice Ao12 t469.length co12, .slice Ao14 t472.length co14, .int .i64 t475, .int .i64 t476, .int .i64 t477, .int .i64 t478, .int .i64 0, .int .i64 0, .int .i64 0, .int .i64 0, .int .i64 0, .int .i64 0, .int .i64 0]) ?_ 6 _ rfl; (with_reducible repeat (first | refine blk_drewN ?_ _ | refine blk_drew ?_ | refine blk_alloc ?_ _)); refine blk_put (cs := #[.slice Ao12 t469.length co12, .slice Ao14 t472.length co14, .int .i64 t475, .int .i64 t476, .int .i64 t477, .int .i64 0, .int .i64 0, .int .i64 0, .int .i64 0, .int .i64 0, .int .i64 0, .int .i64 0, .int .i64 0]) ?_ 5 _ rfl; (with_reducible repeat (first | refine blk_drewN ?_ _ | refine blk_drew ?_ | refine blk_alloc ?_ _)); refine blk_put (cs := #[.slice Ao12 t469.length co12, .slice Ao14 t472.length co14, .int .i64 t475, .int .i64 t476, .int .i64 0, .int .i64 0, .int .i64 0, .int .i64 0, .int .i64 0, .int .i64 0, .int .i64 0, .int .i64 0, .int .i64 0]) ?_ 4 _ rfl; (with_reducible repeat (first | refine blk_drewN ?_ _ | refine blk_drew ?_ | refine blk_alloc ?_ _)); refine blk_put (cs := #[.slice Ao12 t469.length co12, .slice Ao14 t472.length co14, .int .i64 t475, .int .i64 0, .int .i64 0, .int .i64 0, .int .i64 0, .int .i64 0, .int .i64 0, .int .i64 0, .int .i64 0, .int .i64 0, .int .i64 0]) ?_ 3 _ rfl; (with_reducible repeat (first | refine blk_drewN ?_ _ | refine blk_drew ?_ | refine blk_alloc ?_ _)); refine blk_put (cs := #[.slice Ao12 t469.length co12, .slice Ao14 t472.length co14, .int .i64 0, .int .i64 0, .int .i64 0, .int .i64 0, .int .i64 0, .int .i64 0, .int .i64 0, .int .i64 0, .int .i64 0, .int .i64 0, .int .i64 0]) ?_ 2 _ rfl; (with_reducible repeat (first | refine blk_drewN ?_ _ | refine blk_drew ?_ | refine blk_alloc ?_ _)); refine blk_put (cs := #[.slice Ao12 t469.length co12, .slice none 0 0, .int .i64 0, .int .i64 0, .int .i64 0, .int .i64 0, .int .i64 0, .int .i64 0, .int .i64 0, .int .i64 0, .int .i64 0, .int .i64 0, .int .i64 0]) ?_ 1 _ rfl; (with_reducible repeat (first | refine blk_drewN ?_ _ | refine blk_drew ?_ | refine blk_alloc ?_ _)); refine blk_put (cs := #[.slice none 0 0, .slice none 0 0, .int .i64 0, .int .i64 0, .int .i64 0, .int .i64 0, .int .i64 0, .int .i64 0, .int .i64 0, .int .i64 0, .int .i64 0, .int .i64 0, .int .i64 0]) ?_ 0 _ rfl; (with_reducible repeat (first | refine blk_drewN ?_ _ | refine blk_drew ?_ | refine blk_alloc ?_ _)); exact BK486.out⟩, ⟨by repeat (first | (with_reducible first | exact HB.out | apply below_alloc | apply pw_below_drewN | apply below_drew1 | refine below_set ?_ GE486.out) | exact HB.out)⟩⟩
       ·rw [if_neg c22] at H
        have c22b0 : decide (a3 < (wrap64 (-t479))) = false := decide_eq_false c22
        clear c22
        by_cases c24 : a3 > t479
        ·rw [if_pos c24] at H
         have c24b0 : decide (t479 < a3) = true := decide_eq_true c24
         clear c24
         have H' := Aside0.mk H
         clear H
         obtain ⟨hcz25_0, hcz25_1, hcz25_2, hcz25_3, hcz25_4, hcz25_5, hcz25_6, hcz25_7, hcz25_8, hcz25_9, hcz25_10, hcz25_11, hcz25_12⟩ := cellsK13 BK486.out
         obtain ⟨hfz25_0, hfz25_1, hfz25_2, hfz25_3, hfz25_4, hfz25_5, hfz25_6, hfz25_7, hfz25_8, hfz25_9, hfz25_10, hfz25_11, hfz25_12⟩ := frozK13 BK486.out
         go_wp2
         go_meet
         case rel => exact ⟨_, (true), (by first | rfl | (simp; done) | (simp [*]; done) | (have := TNA.out; unfold wrap64; congr 1; omega) | (unfold wrap64; omega)), H', ⟨by first | omega | exact Nat.le_refl _⟩, ⟨by (with_reducible repeat (first | apply Kd.R_alloc | apply Kd.R_drewN | apply Kd.R_drew)); exact Kd.R_mono (Kd.R_far (p := ⟨gb486, 12, none⟩) (Kd.R_far (p := ⟨gb486, 11, none⟩) (Kd.R_far (p := ⟨gb486, 10, none⟩) (Kd.R_far (p := ⟨gb486, 9, none⟩) (Kd.R_far (p := ⟨gb486, 8, none⟩) (Kd.R_far (p := ⟨gb486, 7, none⟩) (Kd.R_far (p := ⟨gb486, 6, none⟩) (Kd.R_far (p := ⟨gb486, 5, none⟩) (Kd.R_far (p := ⟨gb486, 4, none⟩) (Kd.R_far (p := ⟨gb486, 3, none⟩) (Kd.R_far (p := ⟨gb486, 2, none⟩) (Kd.R_far (p := ⟨gb486, 1, none⟩) (Kd.R_far (p := ⟨gb486, 0, none⟩) (Kd.R_types HO471.out BK486.out (by decide)) (fun _ hk => hk.2) (.slice Ao12 t469.length co12)) (fun _ hk => hk.2) (.slice Ao14 t472.length co14)) (fun _ hk => hk.2) (.int .i64 t475)) (fun _ hk => hk.2) (.int .i64 t476)) (fun _ hk => hk.2) (.int .i64 t477)) (fun _ hk => hk.2) (.int .i64 t478)) (fun _ hk => hk.2) (.int .i64 t479)) (fun _ hk => hk.2) (.int .i64 t480)) (fun _ hk => hk.2) (.int .i64 t481)) (fun _ hk => hk.2) (.int .i64 t482)) (fun _ hk => hk.2) (.int .i64 t483)) (fun _ hk => hk.2) (.int .i64 t484)) (fun _ hk => hk.2) (.int .i64 t485)) (fun _ hk => trivial)⟩, ⟨by (with_reducible repeat (first | apply Kd.R_alloc | apply Kd.R_drewN | apply Kd.R_drew)); exact Kd.R_mono (Kd.R_far (p := ⟨gb486, 12, none⟩) (Kd.R_far (p := ⟨gb486, 11, none⟩) (Kd.R_far (p := ⟨gb486, 10, none⟩) (Kd.R_far (p := ⟨gb486, 9, none⟩) (Kd.R_far (p := ⟨gb486, 8, none⟩) (Kd.R_far (p := ⟨gb486, 7, none⟩) (Kd.R_far (p := ⟨gb486, 6, none⟩) (Kd.R_far (p := ⟨gb486, 5, none⟩) (Kd.R_far (p := ⟨gb486, 4, none⟩) (Kd.R_far (p := ⟨gb486, 3, none⟩) (Kd.R_far (p := ⟨gb486, 2, none⟩) (Kd.R_far (p := ⟨gb486, 1, none⟩) (Kd.R_far (p := ⟨gb486, 0, none⟩) (Kd.R_types HO474.out BK486.out (by decide)) (fun _ hk => hk.2) (.slice Ao12 t469.length co12)) (fun _ hk => hk.2) (.slice Ao14 t472.length co14)) (fun _ hk => hk.2) (.int .i64 t475)) (fun _ hk => hk.2) (.int .i64 t476)) (fun _ hk => hk.2) (.int .i64 t477)) (fun _ hk => hk.2) (.int .i64 t478)) (fun _ hk => hk.2) (.int .i64 t479)) (fun _ hk => hk.2) (.int .i64 t480)) (fun _ hk => hk.2) (.int .i64 t481)) (fun _ hk => hk.2) (.int .i64 t482)) (fun _ hk => hk.2) (.int .i64 t483)) (fun _ hk => hk.2) (.int .i64 t484)) (fun _ hk => hk.2) (.int .i64 t485)) (fun _ hk => trivial)⟩, ⟨by (with_reducible repeat (first | refine blk_drewN ?_ _ | refine blk_drew ?_ | refine blk_alloc ?_ _)); refine blk_put (cs := #[.slice Ao12 t469.length co12, .slice Ao14 t472.length co14, .int .i64 t475, .int .i64 t476, .int .i64 t477, .int .i64 t478, .int .i64 t479, .int .i64 t480, .int .i64 t481, .int .i64 t482, .int .i64 t483, .int .i64 t484, .int .i64 0]) ?_ 12 _ rfl; (with_reducible repeat (first | refine blk_drewN ?_ _ | refine blk_drew ?_ | refine blk_alloc ?_ _)); refine blk_put (cs := #[.slice Ao12 t469.length co12, .slice Ao14 t472.length co14, .int .i64 t475, .int .i64 t476, .int .i64 t477, .int .i64 t478, .int .i64 t479, .int .i64 t480, .int .i64 t481, .int .i64 t482, .int .i64 t483, .int .i64 0, .int .i64 0]) ?_ 11 _ rfl; (with_reducible repeat (first | refine blk_drewN ?_ _ | refine blk_drew ?_ | refine blk_alloc ?_ _)); refine blk_put (cs := #[.slice Ao12 t469.length co12, .slice Ao14 t472.length co14, .int .i64 t475, .int .i64 t476, .int .i64 t477, .int .i64 t478, .int .i64 t479, .int .i64 t480, .int .i64 t481, .int .i64 t482, .int .i64 0, .int .i64 0, .int .i64 0]) ?_ 10 _ rfl; (with_reducible repeat (first | refine blk_drewN ?_ _ | refine blk_drew ?_ | refine blk_alloc ?_ _)); refine blk_put (cs := #[.slice Ao12 t469.length co12, .slice Ao14 t472.length co14, .int .i64 t475, .int .i64 t476, .int .i64 t477, .int .i64 t478, .int .i64 t479, .int .i64 t480, .int .i64 t481, .int .i64 0, .int .i64 0, .int .i64 0, .int .i64 0]) ?_ 9 _ rfl; (with_reducible repeat (first | refine blk_drewN ?_ _ | refine blk_drew ?_ | refine blk_alloc ?_ _)); refine blk_put (cs := #[.slice Ao12 t469.length co12, .slice Ao14 t472.length co14, .int .i64 t475, .int .i64 t476, .int .i64 t477, .int .i64 t478, .int .i64 t479, .int .i64 t480, .int .i64 0, .int .i64 0, .int .i64 0, .int .i64 0, .int .i64 0]) ?_ 8 _ rfl; (with_reducible repeat (first | refine blk_drewN ?_ _ | refine blk_drew ?_ | refine blk_alloc ?_ _)); refine blk_put (cs := #[.slice Ao12 t469.length co12, .slice Ao14 t472.length co14, .int .i64 t475, .int .i64 t476, .int .i64 t477, .int .i64 t478, .int .i64 t479, .int .i64 0, .int .i64 0, .int .i64 0, .int .i64 0, .int .i64 0, .int .i64 0]) ?_ 7 _ rfl; (with_reducible repeat (first | refine blk_drewN ?_ _ | refine blk_drew ?_ | refine blk_alloc ?_ _)); refine blk_put (cs := #[.slice Ao12 t469.length co12, .slice Ao14 t472.length co14, .int .i64 t475, .int .i64 t476, .int .i64 t477, .int .i64 t478, .int .i64 0, .int .i64 0, .int .i64 0, .int .i64 0, .int .i64 0, .int .i64 0, .int .i64 0]) ?_ 6 _ rfl; (with_reducible repeat (first | refine blk_drewN ?_ _ | refine blk_drew ?_ | refine blk_alloc ?_ _)); refine blk_put (cs := #[.slice Ao12 t469.length co12, .slice Ao14 t472.length co14, .int .i64 t475, .int .i64 t476, .int .i64 t477, .int .i64 0, .int .i64 0, .int .i64 0, .int .i64 0, .int .i64 0, .int .i64 0, .int .i64 0, .int .i64 0]) ?_ 5 _ rfl; (with_reducible repeat (first | refine blk_drewN ?_ _ | refine blk_drew ?_ | refine blk_alloc ?_ _)); refine blk_put (cs := #[.slice Ao12 t469.length co12, .slice Ao14 t472.length co14, .int .i64 t475, .int .i64 t476, .int .i64 0, .int .i64 0, .int .i64 0, .int .i64 0, .int .i64 0, .int .i64 0, .int .i64 0, .int .i64 0, .int .i64 0]) ?_ 4 _ rfl; (with_reducible repeat (first | refine blk_drewN ?_ _ | refine blk_drew ?_ | refine blk_alloc ?_ _)); refine blk_put (cs := #[.slice Ao12 t469.length co12, .slice Ao14 t472.length co14, .int .i64 t475, .int .i64 0, .int .i64 0, .int .i64 0, .int .i64 0, .int .i64 0, .int .i64 0, .int .i64 0, .int .i64 0, .int .i64 0, .int .i64 0]) ?_ 3 _ rfl; (with_reducible repeat (first | refine blk_drewN ?_ _ | refine blk_drew ?_ | refine blk_alloc ?_ _)); refine blk_put (cs := #[.slice Ao12 t469.length co12, .slice Ao14 t472.length co14, .int .i64 0, .int .i64 0, .int .i64 0, .int .i64 0, .int .i64 0, .int .i64 0, .int .i64 0, .int .i64 0, .int .i64 0, .int .i64 0, .int .i64 0]) ?_ 2 _ rfl; (with_reducible repeat (first | refine blk_drewN ?_ _ | refine blk_drew ?_ | refine blk_alloc ?_ _)); refine blk_put (cs := #[.slice Ao12 t469.length co12, .slice none 0 0, .int .i64 0, .int .i64 0, .int .i64 0, .int .i64 0, .int .i64 0, .int .i64 0, .int .i64 0, .int .i64 0, .int .i64 0, .int .i64 0, .int .i64 0]) ?_ 1 _ rfl; (with_reducible repeat (first | refine blk_drewN ?_ _ | refine blk_drew ?_ | refine blk_alloc ?_ _)); refine blk_put (cs := #[.slice none 0 0, .slice none 0 0, .int .i64 0, .int .i64 0, .int .i64 0, .int .i64 0, .int .i64 0, .int .i64 0, .int .i64 0, .int .i64 0, .int .i64 0, .int .i64 0, .int .i64 0]) ?_ 0 _ rfl; (with_reducible repeat (first | refine blk_drewN ?_ _ | refine blk_drew ?_ | refine blk_alloc ?_ _)); exact BK486.out⟩, ⟨by repeat (first | (with_reducible first | exact HB.out | apply below_alloc | apply pw_below_drewN | apply below_drew1 | refine below_set ?_ GE486.out) | exact HB.out)⟩⟩
        ·rw [if_neg c24] at H
         have c24b0 : decide (t479 < a3) = false := decide_eq_false c24
         clear c24
         by_cases c26 : a4 < (wrap64 (-t480))
         ·rw [if_pos c26] at H
          have c26b0 : decide (a4 < (wrap64 (-t480))) = true := decide_eq_true c26
          clear c26
          have H' := Aside0.mk H
          clear H
          obtain ⟨hcz27_0, hcz27_1, hcz27_2, hcz27_3, hcz27_4, hcz27_5, hcz27_6, hcz27_7, hcz27_8, hcz27_9, hcz27_10, hcz27_11, hcz27_12⟩ := cellsK13 BK486.out
          obtain ⟨hfz27_0, hfz27_1, hfz27_2, hfz27_3, hfz27_4, hfz27_5, hfz27_6, hfz27_7, hfz27_8, hfz27_9, hfz27_10, hfz27_11, hfz27_12⟩ := frozK13 BK486.out
          go_wp2
          go_meet
          case rel => exact ⟨_, (true), (by first | rfl | (simp; done) | (simp [*]; done) | (have := TNA.out; unfold wrap64; congr 1; omega) | (unfold wrap64; omega)), H', ⟨by first | omega | exact Nat.le_refl _⟩, ⟨by (with_reducible repeat (first | apply Kd.R_alloc | apply Kd.R_drewN | apply Kd.R_drew)); exact Kd.R_mono (Kd.R_far (p := ⟨gb486, 12, none⟩) (Kd.R_far (p := ⟨gb486, 11, none⟩) (Kd.R_far (p := ⟨gb486, 10, none⟩) (Kd.R_far (p := ⟨gb486, 9, none⟩) (Kd.R_far (p := ⟨gb486, 8, none⟩) (Kd.R_far (p := ⟨gb486, 7, none⟩) (Kd.R_far (p := ⟨gb486, 6, none⟩) (Kd.R_far (p := ⟨gb486, 5, none⟩) (Kd.R_far (p := ⟨gb486, 4, none⟩) (Kd.R_far (p := ⟨gb486, 3, none⟩) (Kd.R_far (p := ⟨gb486, 2, none⟩) (Kd.R_far (p := ⟨gb486, 1, none⟩) (Kd.R_far (p := ⟨gb486, 0, none⟩) (Kd.R_types HO471.out BK486.out (by decide)) (fun _ hk => hk.2) (.slice Ao12 t469.length co12)) (fun _ hk => hk.2) (.slice Ao14 t472.length co14)) (fun _ hk => hk.2) (.int .i64 t475)) (fun _ hk => hk.2) (.int .i64 t476)) (fun _ hk => hk.2) (.int .i64 t477)) (fun _ hk => hk.2) (.int .i64 t478)) (fun _ hk => hk.2) (.int .i64 t479)) (fun _ hk => hk.2) (.int .i64 t480)) (fun _ hk => hk.2) (.int .i64 t481)) (fun _ hk => hk.2) (.int .i64 t482)) (fun _ hk => hk.2) (.int .i64 t483)) (fun _ hk => hk.2) (.int .i64 t484)) (fun _ hk => hk.2) (.int .i64 t485)) (fun _ hk => trivial)⟩, ⟨by (with_reducible repeat (first | apply Kd.R_alloc | apply Kd.R_drewN | apply Kd.R_drew)); exact Kd.R_mono (Kd.R_far (p := ⟨gb486, 12, none⟩) (Kd.R_far (p := ⟨gb486, 11, none⟩) (Kd.R_far (p := ⟨gb486, 10, none⟩) (Kd.R_far (p := ⟨gb486, 9, none⟩) (Kd.R_far (p := ⟨gb486, 8, none⟩) (Kd.R_far (p := ⟨gb486, 7, none⟩) (Kd.R_far (p := ⟨gb486, 6, none⟩) (Kd.R_far (p := ⟨gb486, 5, none⟩) (Kd.R_far (p := ⟨gb486, 4, none⟩) (Kd.R_far (p := ⟨gb486, 3, none⟩) (Kd.R_far (p := ⟨gb486, 2, none⟩) (Kd.R_far (p := ⟨gb486, 1, none⟩) (Kd.R_far (p := ⟨gb486, 0, none⟩) (Kd.R_types HO474.out BK486.out (by decide)) (fun _ hk => hk.2) (.slice Ao12 t469.length co12)) (fun _ hk => hk.2) (.slice Ao14 t472.length co14)) (fun _ hk => hk.2) (.int .i64 t475)) (fun _ hk => hk.2) (.int .i64 t476)) (fun _ hk => hk.2) (.int .i64 t477)) (fun _ hk => hk.2) (.int .i64 t478)) (fun _ hk => hk.2) (.int .i64 t479)) (fun _ hk => hk.2) (.int .i64 t480)) (fun _ hk => hk.2) (.int .i64 t481)) (fun _ hk => hk.2) (.int .i64 t482)) (fun _ hk => hk.2) (.int .i64 t483)) (fun _ hk => hk.2) (.int .i64 t484)) (fun _ hk => hk.2) (.int .i64 t485)) (fun _ hk => trivial)⟩, ⟨by (with_reducible repeat (first | refine blk_drewN ?_ _ | refine blk_drew ?_ | refine blk_alloc ?_ _)); refine blk_put (cs := #[.slice Ao12 t469.length co12, .slice Ao14 t472.length co14, .int .i64 t475, .int .i64 t476, .int .i64 t477, .int .i64 t478, .int .i64 t479, .int .i64 t480, .int .i64 t481, .int .i64 t482, .int .i64 t483, .int .i64 t484, .int .i64 0]) ?_ 12 _ rfl; (with_reducible repeat (first | refine blk_drewN ?_ _ | refine blk_drew ?_ | refine blk_alloc ?_ _)); refine blk_put (cs := #[.slice Ao12 t469.length co12, .slice Ao14 t472.length co14, .int .i64 t475, .int .i64 t476, .int .i64 t477, .int .i64 t478, .int .i64 t479, .int .i64 t480, .int .i64 t481, .int .i64 t482, .int .i64 t483, .int .i64 0, .int .i64 0]) ?_ 11 _ rfl; (with_reducible repeat (first | refine blk_drewN ?_ _ | refine blk_drew ?_ | refine blk_alloc ?_ _)); refine blk_put (cs := #[.slice Ao12 t469.length co12, .slice Ao14 t472.length co14, .int .i64 t475, .int .i64 t476, .int .i64 t477, .int .i64 t478, .int .i64 t479, .int .i64 t480, .int .i64 t481, .int .i64 t482, .int .i64 0, .int .i64 0, .int .i64 0]) ?_ 10 _ rfl; (with_reducible repeat (first | refine blk_drewN ?_ _ | refine blk_drew ?_ | refine blk_alloc ?_ _)); refine blk_put (cs := #[.slice Ao12 t469.length co12, .slice Ao14 t472.length co14, .int .i64 t475, .int .i64 t476, .int .i64 t477, .int .i64 t478, .int .i64 t479, .int .i64 t480, .int .i64 t481, .int .i64 0, .int .i64 0, .int .i64 0, .int .i64 0]) ?_ 9 _ rfl; (with_reducible repeat (first | refine blk_drewN ?_ _ | refine blk_drew ?_ | refine blk_alloc ?_ _)); refine blk_put (cs := #[.slice Ao12 t469.length co12, .slice Ao14 t472.length co14, .int .i64 t475, .int .i64 t476, .int .i64 t477, .int .i64 t478, .int .i64 t479, .int .i64 t480, .int .i64 0, .int .i64 0, .int .i64 0, .int .i64 0, .int .i64 0]) ?_ 8 _ rfl; (with_reducible repeat (first | refine blk_drewN ?_ _ | refine blk_drew ?_ | refine blk_alloc ?_ _)); refine blk_put (cs := #[.slice Ao12 t469.length co12, .slice Ao14 t472.length co14, .int .i64 t475, .int .i64 t476, .int .i64 t477, .int .i64 t478, .int .i64 t479, .int .i64 0, .int .i64 0, .int .i64 0, .int .i64 0, .int .i64 0, .int .i64 0]) ?_ 7 _ rfl; (with_reducible repeat (first | refine blk_drewN ?_ _ | refine blk_drew ?_ | refine blk_alloc ?_ _)); refine blk_put (cs := #[.slice Ao12 t469.length co12, .slice Ao14 t472.length co14, .int .i64 t475, .int .i64 t476, .int .i64 t477, .int .i64 t478, .int .i64 0, .int .i64 0, .int .i64 0, .int .i64 0, .int .i64 0, .int .i64 0, .int .i64 0]) ?_ 6 _ rfl; (with_reducible repeat (first | refine blk_drewN ?_ _ | refine blk_drew ?_ | refine blk_alloc ?_ _)); refine blk_put (cs := #[.slice Ao12 t469.length co12, .slice Ao14 t472.length co14, .int .i64 t475, .int .i64 t476, .int .i64 t477, .int .i64 0, .int .i64 0, .int .i64 0, .int .i64 0, .int .i64 0, .int .i64 0, .int .i64 0, .int .i64 0]) ?_ 5 _ rfl; (with_reducible repeat (first | refine blk_drewN ?_ _ | refine blk_drew ?_ | refine blk_alloc ?_ _)); refine blk_put (cs := #[.slice Ao12 t469.length co12, .slice Ao14 t472.length co14, .int .i64 t475, .int .i64 t476, .int .i64 0, .int .i64 0, .int .i64 0, .int .i64 0, .int .i64 0, .int .i64 0, .int .i64 0, .int .i64 0, .int .i64 0]) ?_ 4 _ rfl; (with_reducible repeat (first | refine blk_drewN ?_ _ | refine blk_drew ?_ | refine blk_alloc ?_ _)); refine blk_put (cs := #[.slice Ao12 t469.length co12, .slice Ao14 t472.length co14, .int .i64 t475, .int .i64 0, .int .i64 0, .int .i64 0, .int .i64 0, .int .i64 0, .int .i64 0, .int .i64 0, .int .i64 0, .int .i64 0, .int .i64 0]) ?_ 3 _ rfl; (with_reducible repeat (first | refine blk_drewN ?_ _ | refine blk_drew ?_ | refine blk_alloc ?_ _)); refine blk_put (cs := #[.slice Ao12 t469.length co12, .slice Ao14 t472.length co14, .int .i64 0, .int .i64 0, .int .i64 0, .int .i64 0, .int .i64 0, .int .i64 0, .int .i64 0, .int .i64 0, .int .i64 0, .int .i64 0, .int .i64 0]) ?_ 2 _ rfl; (with_reducible repeat (first | refine blk_drewN ?_ _ | refine blk_drew ?_ | refine blk_alloc ?_ _)); refine blk_put (cs := #[.slice Ao12 t469.length co12, .slice none 0 0, .int .i64 0, .int .i64 0, .int .i64 0, .int .i64 0, .int .i64 0, .int .i64 0, .int .i64 0, .int .i64 0, .int .i64 0, .int .i64 0, .int .i64 0]) ?_ 1 _ rfl; (with_reducible repeat (first | refine blk_drewN ?_ _ | refine blk_drew ?_ | refine blk_alloc ?_ _)); refine blk_put (cs := #[.slice none 0 0, .slice none 0 0, .int .i64 0, .int .i64 0, .int .i64 0, .int .i64 0, .int .i64 0, .int .i64 0, .int .i64 0, .int .i64 0, .int .i64 0, .int .i64 0, .int .i64 0]) ?_ 0 _ rfl; (with_reducible repeat (first | refine blk_drewN ?_ _ | refine blk_drew ?_ | refine blk_alloc ?_ _)); exact BK486.out⟩, ⟨by repeat (first | (with_reducible first | exact HB.out | apply below_alloc | apply pw_below_drewN | apply below_drew1 | refine below_set ?_ GE486.out) | exact HB.out)⟩⟩
         ·rw [if_neg c26] at H
          have c26b0 : decide (a4 < (wrap64 (-t480))) = false := decide_eq_false c26
          clear c26
          have H' := Aside0.mk H
          clear H
          obtain ⟨hcz28_0, hcz28_1, hcz28_2, hcz28_3, hcz28_4, hcz28_5, hcz28_6, hcz28_7, hcz28_8, hcz28_9, hcz28_10, hcz28_11, hcz28_12⟩ := cellsK13 BK486.out
          obtain ⟨hfz28_0, hfz28_1, hfz28_2, hfz28_3, hfz28_4, hfz28_5, hfz28_6, hfz28_7, hfz28_8, hfz28_9, hfz28_10, hfz28_11, hfz28_12⟩ := frozK13 BK486.out
          go_wp2
          go_meet
          case rel => exact ⟨_, (decide (a4 > t480)), (by first | rfl | (simp; done) | (simp [*]; done) | (have := TNA.out; unfold wrap64; congr 1; omega) | (unfold wrap64; omega)), H', ⟨by first | omega | exact Nat.le_refl _⟩, ⟨by (with_reducible repeat (first | apply Kd.R_alloc | apply Kd.R_drewN | apply Kd.R_drew)); exact Kd.R_mono (Kd.R_far (p := ⟨gb486, 12, none⟩) (Kd.R_far (p := ⟨gb486, 11, none⟩) (Kd.R_far (p := ⟨gb486, 10, none⟩) (Kd.R_far (p := ⟨gb486, 9, none⟩) (Kd.R_far (p := ⟨gb486, 8, none⟩) (Kd.R_far (p := ⟨gb486, 7, none⟩) (Kd.R_far (p := ⟨gb486, 6, none⟩) (Kd.R_far (p := ⟨gb486, 5, none⟩) (Kd.R_far (p := ⟨gb486, 4, none⟩) (Kd.R_far (p := ⟨gb486, 3, none⟩) (Kd.R_far (p := ⟨gb486, 2, none⟩) (Kd.R_far (p := ⟨gb486, 1, none⟩) (Kd.R_far (p := ⟨gb486, 0, none⟩) (Kd.R_types HO471.out BK486.out (by decide)) (fun _ hk => hk.2) (.slice Ao12 t469.length co12)) (fun _ hk => hk.2) (.slice Ao14 t472.length co14)) (fun _ hk => hk.2) (.int .i64 t475)) (fun _ hk => hk.2) (.int .i64 t476)) (fun _ hk => hk.2) (.int .i64 t477)) (fun _ hk => hk.2) (.int .i64 t478)) (fun _ hk => hk.2) (.int .i64 t479)) (fun _ hk => hk.2) (.int .i64 t480)) (fun _ hk => hk.2) (.int .i64 t481)) (fun _ hk => hk.2) (.int .i64 t482)) (fun _ hk => hk.2) (.int .i64 t483)) (fun _ hk => hk.2) (.int .i64 t484)) (fun _ hk => hk.2) (.int .i64 t485)) (fun _ hk => trivial)⟩, ⟨by (with_reducible repeat (first | apply Kd.R_alloc | apply Kd.R_drewN | apply Kd.R_drew)); exact Kd.R_mono (Kd.R_far (p := ⟨gb486, 12, none⟩) (Kd.R_far (p := ⟨gb486, 11, none⟩) (Kd.R_far (p := ⟨gb486, 10, none⟩) (Kd.R_far (p := ⟨gb486, 9, none⟩) (Kd.R_far (p := ⟨gb486, 8, none⟩) (Kd.R_far (p := ⟨gb486, 7, none⟩) (Kd.R_far (p := ⟨gb486, 6, none⟩) (Kd.R_far (p := ⟨gb486, 5, none⟩) (Kd.R_far (p := ⟨gb486, 4, none⟩) (Kd.R_far (p := ⟨gb486, 3, none⟩) (Kd.R_far (p := ⟨gb486, 2, none⟩) (Kd.R_far (p := ⟨gb486, 1, none⟩) (Kd.R_far (p := ⟨gb486, 0, none⟩) (Kd.R_types HO474.out BK486.out (by decide)) (fun _ hk => hk.2) (.slice Ao12 t469.length co12)) (fun _ hk => hk.2) (.slice Ao14 t472.length co14)) (fun _ hk => hk.2) (.int .i64 t475)) (fun _ hk => hk.2) (.int .i64 t476)) (fun _ hk => hk.2) (.int .i64 t477)) (fun _ hk => hk.2) (.int .i64 t478)) (fun _ hk => hk.2) (.int .i64 t479)) (fun _ hk => hk.2) (.int .i64 t480)) (fun _ hk => hk.2) (.int .i64 t481)) (fun _ hk => hk.2) (.int .i64 t482)) (fun _ hk => hk.2) (.int .i64 t483)) (fun _ hk => hk.2) (.int .i64 t484)) (fun _ hk => hk.2) (.int .i64 t485)) (fun _ hk => trivial)⟩, ⟨by (with_reducible repeat (first | refine blk_drewN ?_ _ | refine blk_drew ?_ | refine blk_alloc ?_ _)); refine blk_put (cs := #[.slice Ao12 t469.length co12, .slice Ao14 t472.length co14, .int .i64 t475, .int .i64 t476, .int .i64 t477, .int .i64 t478, .int .i64 t479, .int .i64 t480, .int .i64 t481, .int .i64 t482, .int .i64 t483, .int .i64 t484, .int .i64 0]) ?_ 12 _ rfl; (with_reducible repeat (first | refine blk_drewN ?_ _ | refine blk_drew ?_ | refine blk_alloc ?_ _)); refine blk_put (cs := #[.slice Ao12 t469.length co12, .slice Ao14 t472.length co14, .int .i64 t475, .int .i64 t476, .int .i64 t477, .int .i64 t478, .int .i64 t479, .int .i64 t480, .int .i64 t481, .int .i64 t482, .int .i64 t483, .int .i64 0, .int .i64 0]) ?_ 11 _ rfl; (with_reducible repeat (first | refine blk_drewN ?_ _ | refine blk_drew ?_ | refine blk_alloc ?_ _)); refine blk_put (cs := #[.slice Ao12 t469.length co12, .slice Ao14 t472.length co14, .int .i64 t475, .int .i64 t476, .int .i64 t477, .int .i64 t478, .int .i64 t479, .int .i64 t480, .int .i64 t481, .int .i64 t482, .int .i64 0, .int .i64 0, .int .i64 0]) ?_ 10 _ rfl; (with_reducible repeat (first | refine blk_drewN ?_ _ | refine blk_drew ?_ | refine blk_alloc ?_ _)); refine blk_put (cs := #[.slice Ao12 t469.length co12, .slice Ao14 t472.length co14, .int .i64 t475, .int .i64 t476, .int .i64 t477, .int .i64 t478, .int .i64 t479, .int .i64 t480, .int .i64 t481, .int .i64 0, .int .i64 0, .int .i64 0, .int .i64 0]) ?_ 9 _ rfl; (with_reducible repeat (first | refine blk_drewN ?_ _ | refine blk_drew ?_ | refine blk_alloc ?_ _)); refine blk_put (cs := #[.slice Ao12 t469.length co12, .slice Ao14 t472.length co14, .int .i64 t475, .int .i64 t476, .int .i64 t477, .int .i64 t478, .int .i64 t479, .int .i64 t480, .int .i64 0, .int .i64 0, .int .i64 0, .int .i64 0, .int .i64 0]) ?_ 8 _ rfl; (with_reducible repeat (first | refine blk_drewN ?_ _ | refine blk_drew ?_ | refine blk_alloc ?_ _)); refine blk_put (cs := #[.slice Ao12 t469.length co12, .slice Ao14 t472.length co14, .int .i64 t475, .int .i64 t476, .int .i64 t477, .int .i64 t478, .int .i64 t479, .int .i64 0, .int .i64 0, .int .i64 0, .int .i64 0, .int .i64 0, .int .i64 0]) ?_ 7 _ rfl; (with_reducible repeat (first | refine blk_drewN ?_ _ | refine blk_drew ?_ | refine blk_alloc ?_ _)); refine blk_put (cs := #[.slice Ao12 t469.length co12, .slice Ao14 t472.length co14, .int .i64 t475, .int .i64 t476, .int .i64 t477, .int .i64 t478, .int .i64 0, .int .i64 0, .int .i64 0, .int .i64 0, .int .i64 0, .int .i64 0, .int .i64 0]) ?_ 6 _ rfl; (with_reducible repeat (first | refine blk_drewN ?_ _ | refine blk_drew ?_ | refine blk_alloc ?_ _)); refine blk_put (cs := #[.slice Ao12 t469.length co12, .slice Ao14 t472.length co14, .int .i64 t475, .int .i64 t476, .int .i64 t477, .int .i64 0, .int .i64 0, .int .i64 0, .int .i64 0, .int .i64 0, .int .i64 0, .int .i64 0, .int .i64 0]) ?_ 5 _ rfl; (with_reducible repeat (first | refine blk_drewN ?_ _ | refine blk_drew ?_ | refine blk_alloc ?_ _)); refine blk_put (cs := #[.slice Ao12 t469.length co12, .slice Ao14 t472.length co14, .int .i64 t475, .int .i64 t476, .int .i64 0, .int .i64 0, .int .i64 0, .int .i64 0, .int .i64 0, .int .i64 0, .int .i64 0, .int .i64 0, .int .i64 0]) ?_ 4 _ rfl; (with_reducible repeat (first | refine blk_drewN ?_ _ | refine blk_drew ?_ | refine blk_alloc ?_ _)); refine blk_put (cs := #[.slice Ao12 t469.length co12, .slice Ao14 t472.length co14, .int .i64 t475, .int .i64 0, .int .i64 0, .int .i64 0, .int .i64 0, .int .i64 0, .int .i64 0, .int .i64 0, .int .i64 0, .int .i64 0, .int .i64 0]) ?_ 3 _ rfl; (with_reducible repeat (first | refine blk_drewN ?_ _ | refine blk_drew ?_ | refine blk_alloc ?_ _)); refine blk_put (cs := #[.slice Ao12 t469.length co12, .slice Ao14 t472.length co14, .int .i64 0, .int .i64 0, .int .i64 0, .int .i64 0, .int .i64 0, .int .i64 0, .int .i64 0, .int .i64 0, .int .i64 0, .int .i64 0, .int .i64 0]) ?_ 2 _ rfl; (with_reducible repeat (first | refine blk_drewN ?_ _ | refine blk_drew ?_ | refine blk_alloc ?_ _)); refine blk_put (cs := #[.slice Ao12 t469.length co12, .slice none 0 0, .int .i64 0, .int .i64 0, .int .i64 0, .int .i64 0, .int .i64 0, .int .i64 0, .int .i64 0, .int .i64 0, .int .i64 0, .int .i64 0, .int .i64 0]) ?_ 1 _ rfl; (with_reducible repeat (first | refine blk_drewN ?_ _ | refine blk_drew ?_ | refine blk_alloc ?_ _)); refine blk_put (cs := #[.slice none 0 0, .slice none 0 0, .int .i64 0, .int .i64 0, .int .i64 0, .int .i64 0, .int .i64 0, .int .i64 0, .int .i64 0, .int .i64 0, .int .i64 0, .int .i64 0, .int .i64 0]) ?_ 0 _ rfl; (with_reducible repeat (first | refine blk_drewN ?_ _ | refine blk_drew ?_ | refine blk_alloc ?_ _)); exact BK486.out⟩, ⟨by repeat (first | (with_reducible first | exact HB.out | apply below_alloc | apply pw_below_drewN | apply below_drew1 | refine below_set ?_ GE486.out) | exact HB.out)⟩⟩
  case rest =>
   clear HC9
   try clear c1
   try clear c2
   try clear p2
   try clear p6
   try clear c7
   try clear c15
   try clear c15b0
   try clear c16
   try clear c16b0
   try clear c18
   try clear c18b0
   try clear c20
   try clear c20b0
   try clear c21
   try clear c22
   try clear c22b0
   try clear c24
   try clear c24b0
   try clear c26
   try clear c26b0
   try clear hcz13_0
   try clear hcz13_1
   try clear hcz13_10
   try clear hcz13_11
   try clear hcz13_12
   try clear hcz13_2
   try clear hcz13_3
   try clear hcz13_4
   try clear hcz13_5
   try clear hcz13_6
   try clear hcz13_7
   try clear hcz13_8
   try clear hcz13_9
   try clear hcz17_0
   try clear hcz17_1
   try clear hcz17_10
   try clear hcz17_11
   try clear hcz17_12
   try clear hcz17_2
   try clear hcz17_3
   try clear hcz17_4
   try clear hcz17_5
   try clear hcz17_6
   try clear hcz17_7
   try clear hcz17_8
   try clear hcz17_9
   try clear hcz19_0
   try clear hcz19_1
   try clear hcz19_10
   try clear hcz19_11
   try clear hcz19_12
   try clear hcz19_2
   try clear hcz19_3
   try clear hcz19_4
   try clear hcz19_5
   try clear hcz19_6
   try clear hcz19_7
   try clear hcz19_8
   try clear hcz19_9
   try clear hcz21_0
   try clear hcz21_1
   try clear hcz21_10
   try clear hcz21_11
   try clear hcz21_12
   try clear hcz21_2
   try clear hcz21_3
   try clear hcz21_4
   try clear hcz21_5
   try clear hcz21_6
   try clear hcz21_7
   try clear hcz21_8
   try clear hcz21_9
   try clear hcz23_0
   try clear hcz23_1
   try clear hcz23_10
   try clear hcz23_11
   try clear hcz23_12
   try clear hcz23_2
   try clear hcz23_3
   try clear hcz23_4
   try clear hcz23_5
   try clear hcz23_6
   try clear hcz23_7
   try clear hcz23_8
   try clear hcz23_9
   try clear hcz25_0
   try clear hcz25_1
   try clear hcz25_10
   try clear hcz25_11
   try clear hcz25_12
   try clear hcz25_2
   try clear hcz25_3
   try clear hcz25_4
   try clear hcz25_5
   try clear hcz25_6
   try clear hcz25_7
   try clear hcz25_8
   try clear hcz25_9
   try clear hcz27_0
   try clear hcz27_1
   try clear hcz27_10
   try clear hcz27_11
   try clear hcz27_12
   try clear hcz27_2
   try clear hcz27_3
   try clear hcz27_4
   try clear hcz27_5
   try clear hcz27_6
   try clear hcz27_7
   try clear hcz27_8
   try clear hcz27_9
   try clear hcz28_0
   try clear hcz28_1
   try clear hcz28_10
   try clear hcz28_11
   try clear hcz28_12
   try clear hcz28_2
   try clear hcz28_3
   try clear hcz28_4
   try clear hcz28_5
   try clear hcz28_6
   try clear hcz28_7
   try clear hcz28_8
   try clear hcz28_9
   try clear hfz13_0
   try clear hfz13_1
   try clear hfz13_10
   try clear hfz13_11
   try clear hfz13_12
   try clear hfz13_2
   try clear hfz13_3
   try clear hfz13_4
   try clear hfz13_5
   try clear hfz13_6
   try clear hfz13_7
   try clear hfz13_8
   try clear hfz13_9
   try clear hfz17_0
   try clear hfz17_1
   try clear hfz17_10
   try clear hfz17_11
   try clear hfz17_12
   try clear hfz17_2
   try clear hfz17_3
   try clear hfz17_4
   try clear hfz17_5
   try clear hfz17_6
   try clear hfz17_7
   try clear hfz17_8
   try clear hfz17_9
   try clear hfz19_0
   try clear hfz19_1
   try clear hfz19_10
   try clear hfz19_11
   try clear hfz19_12
   try clear hfz19_2
   try clear hfz19_3
   try clear hfz19_4
   try clear hfz19_5
   try clear hfz19_6
   try clear hfz19_7
   try clear hfz19_8
   try clear hfz19_9
   try clear hfz21_0
   try clear hfz21_1
   try clear hfz21_10
   try clear hfz21_11
   try clear hfz21_12
   try clear hfz21_2
   try clear hfz21_3
   try clear hfz21_4
   try clear hfz21_5
   try clear hfz21_6
   try clear hfz21_7
   try clear hfz21_8
   try clear hfz21_9
   try clear hfz23_0
   try clear hfz23_1
   try clear hfz23_10
   try clear hfz23_11
   try clear hfz23_12
   try clear hfz23_2
   try clear hfz23_3
   try clear hfz23_4
   try clear hfz23_5
   try clear hfz23_6
   try clear hfz23_7
   try clear hfz23_8
   try clear hfz23_9
   try clear hfz25_0
   try clear hfz25_1
   try clear hfz25_10
   try clear hfz25_11
   try clear hfz25_12
   try clear hfz25_2
   try clear hfz25_3
   try clear hfz25_4
   try clear hfz25_5
   try clear hfz25_6
   try clear hfz25_7
   try clear hfz25_8
   try clear hfz25_9
   try clear hfz27_0
   try clear hfz27_1
   try clear hfz27_10
   try clear hfz27_11
   try clear hfz27_12
   try clear hfz27_2
   try clear hfz27_3
   try clear hfz27_4
   try clear hfz27_5
   try clear hfz27_6
   try clear hfz27_7
   try clear hfz27_8
   try clear hfz27_9
   try clear hfz28_0
   try clear hfz28_1
   try clear hfz28_10
   try clear hfz28_11
   try clear hfz28_12
   try clear hfz28_2
   try clear hfz28_3
   try clear hfz28_4
   try clear hfz28_5
   try clear hfz28_6
   try clear hfz28_7
   try clear hfz28_8
   try clear hfz28_9
   obtain ⟨kq, x63_8, rfl, HA, HJ8, HO_487000, HO_487001, BK486, HB⟩ := hcut
   cases kq with
   | zero => exact absurd HA.out (by simp [drumlinelaw8_ClockApart.j0])
   | succ kj8 =>
    have H := HA.out
    clear HA
    simp only [drumlinelaw8_ClockApart.j0] at H
    by_cases c29 : x63_8 = true
    ·subst c29
     have H1 : (some true) = some r := by rw [if_pos rfl] at H; exact H
     clear H
     have H := H1
     clear H1
     obtain rfl := Option.some.inj H
     go_wp2
     go_ret
     exact ⟨by first | rfl | (simp [errW_none, errW_some] <;> rfl) | (simp [*, errW_none, errW_some] <;> rfl), by repeat (first | (with_reducible first | exact HB.out | apply below_alloc | apply pw_below_drewN | apply below_drew1 | refine below_set ?_ GE486.out) | exact HB.out)⟩
    ·replace c29 := Bool.eq_false_iff.mpr c29
     subst c29
     have H1 : ((clock_Real.f a1 (wrap64 (a2 + a4))).bind fun t487 => ((clock_Real.f a1 (wrap64 (a3 + a4))).bind fun t488 => ((bounds_Edge.f kj8 t469 t472 t475 t476 t477 t478 t479 t480 t481 t482 t483 t484 t485).bind fun t489 => (if (wrap64 (t487 - t488)) < t489 then ((bounds_Edge.f kj8 t469 t472 t475 t476 t477 t478 t479 t480 t481 t482 t483 t484 t485).bind fun t490 => (some (decide ((wrap64 (-(wrap64 (t487 - t488)))) < t490)))) else (some false))))) = some r := by rw [if_neg (show ¬ (false = true) by decide)] at H; exact H
     clear H
     have H := H1
     clear H1
     replace H := Option.bind_eq_some_iff.mp H
     obtain ⟨t487, A300, H⟩ := H
     replace H : ((clock_Real.f a1 (wrap64 (a3 + a4))).bind fun t488 => ((bounds_Edge.f kj8 t469 t472 t475 t476 t477 t478 t479 t480 t481 t482 t483 t484 t485).bind fun t489 => (if (wrap64 (t487 - t488)) < t489 then ((bounds_Edge.f kj8 t469 t472 t475 t476 t477 t478 t479 t480 t481 t482 t483 t484 t485).bind fun t490 => (some (decide ((wrap64 (-(wrap64 (t487 - t488)))) < t490)))) else (some false)))) = some r := H
     have A30 := Aside0.mk A300
     clear A300
     replace H := Option.bind_eq_some_iff.mp H
     obtain ⟨t488, A310, H⟩ := H
     replace H : ((bounds_Edge.f kj8 t469 t472 t475 t476 t477 t478 t479 t480 t481 t482 t483 t484 t485).bind fun t489 => (if (wrap64 (t487 - t488)) < t489 then ((bounds_Edge.f kj8 t469 t472 t475 t476 t477 t478 t479 t480 t481 t482 t483 t484 t485).bind fun t490 => (some (decide ((wrap64 (-(wrap64 (t487 - t488)))) < t490)))) else (some false))) = some r := H
     have A31 := Aside0.mk A310
     clear A310
     replace H := Option.bind_eq_some_iff.mp H
     obtain ⟨t489, A320, H⟩ := H
     replace H : (if (wrap64 (t487 - t488)) < t489 then ((bounds_Edge.f kj8 t469 t472 t475 t476 t477 t478 t479 t480 t481 t482 t483 t484 t485).bind fun t490 => (some (decide ((wrap64 (-(wrap64 (t487 - t488)))) < t490)))) else (some false)) = some r := H
     have A32 := Aside0.mk A320
     clear A320
     by_cases c33 : (wrap64 (t487 - t488)) < t489
     ·rw [if_pos c33] at H
      have c33b0 : decide ((wrap64 (t487 - t488)) < t489) = true := decide_eq_true c33
      clear c33
      replace H := Option.bind_eq_some_iff.mp H
      obtain ⟨t490, A340, H⟩ := H
      replace H : (some (decide ((wrap64 (-(wrap64 (t487 - t488)))) < t490))) = some r := H
      have A34 := Aside0.mk A340
      clear A340
      obtain rfl := Option.some.inj H
      go_wp2_with (first | ((with_reducible refine gate_callee (f := 22) rfl ?_); refine goesL_ (some 68) rfl rfl Tryd.func22 (by kernel_rfl) rfl #[.int .i64 a1, .int .i64 (wrap64 (a2 + a4))] rfl (by (try simp only [List.map_toArray, List.map_cons, List.map_nil]); first | done | rfl | (simp only [List.length_drop, List.length_take]; rfl)) ?_; (with_reducible refine (clock_Real.calls a1 (wrap64 (a2 + a4)) t487 _ A30.out).mono ?_); rintro e w' ⟨rfl, ⟨nd, rfl⟩⟩; refine ⟨_, rfl, ?_⟩) | ((with_reducible refine gate_callee (f := 22) rfl ?_); refine goesL_ (some 73) rfl rfl Tryd.func22 (by kernel_rfl) rfl #[.int .i64 a1, .int .i64 (wrap64 (a3 + a4))] rfl (by (try simp only [List.map_toArray, List.map_cons, List.map_nil]); first | done | rfl | (simp only [List.length_drop, List.length_take]; rfl)) ?_; (with_reducible refine (clock_Real.calls a1 (wrap64 (a3 + a4)) t488 _ A31.out).mono ?_); rintro e w' ⟨rfl, ⟨nd, rfl⟩⟩; refine ⟨_, rfl, ?_⟩; obtain ⟨hcz35_0, hcz35_1, hcz35_2, hcz35_3, hcz35_4, hcz35_5, hcz35_6, hcz35_7, hcz35_8, hcz35_9, hcz35_10, hcz35_11, hcz35_12⟩ := cellsK13 BK486.out; obtain ⟨hfz35_0, hfz35_1, hfz35_2, hfz35_3, hfz35_4, hfz35_5, hfz35_6, hfz35_7, hfz35_8, hfz35_9, hfz35_10, hfz35_11, hfz35_12⟩ := frozK13 BK486.out) | ((with_reducible refine gate_callee (f := 23) rfl ?_); refine goesL_ (some 77) rfl rfl Tryd.func23 (by kernel_rfl) rfl #[.agg #[.slice Ao12 t469.length co12, .slice Ao14 t472.length co14, .int .i64 t475, .int .i64 t476, .int .i64 t477, .int .i64 t478, .int .i64 t479, .int .i64 t480, .int .i64 t481, .int .i64 t482, .int .i64 t483, .int .i64 t484, .int .i64 t485]] rfl (by (try simp only [List.map_toArray, List.map_cons, List.map_nil]); first | done | rfl | (simp only [List.length_drop, List.length_take]; rfl)) ?_; (with_reducible refine (bounds_Edge.calls kj8 _ _ t469 _ _ t472 t475 t476 t477 t478 t479 t480 t481 t482 t483 t484 t485 t489 _ ?side1 ?side2 ?side3 ?side4 A32.out).mono ?_); (case side1 => repeat (first | exact (Kd.R_reads' HO_487000.out).2.2 | (with_reducible refine Kd.C_alloc ?_ _) | (with_reducible refine Kd.C_drewN ?_ _) | (with_reducible refine Kd.C_drew ?_))); (case side2 => exact (Kd.R_reads' HO_487000.out).2.1); (case side3 => repeat (first | exact (Kd.R_reads' HO_487001.out).2.2 | (with_reducible refine Kd.C_alloc ?_ _) | (with_reducible refine Kd.C_drewN ?_ _) | (with_reducible refine Kd.C_drew ?_))); (case side4 => exact (Kd.R_reads' HO_487001.out).2.1); rintro e w36 ⟨rfl, hb⟩; refine ⟨_, rfl, ?_⟩; have n0_ := Aside0.mk (Kd.R_below (by (with_reducible repeat (first | apply Kd.R_alloc | apply Kd.R_drewN | apply Kd.R_drew)); exact HO_487000.out) hb); have n1_ := Aside0.mk (Kd.R_below (by (with_reducible repeat (first | apply Kd.R_alloc | apply Kd.R_drewN | apply Kd.R_drew)); exact HO_487001.out) hb); have n2_ := Aside0.mk (blk_below (g := gb486) (o := .cells #[.slice Ao12 t469.length co12, .slice Ao14 t472.length co14, .int .i64 t475, .int .i64 t476, .int .i64 t477, .int .i64 t478, .int .i64 t479, .int .i64 t480, .int .i64 t481, .int .i64 t482, .int .i64 t483, .int .i64 t484, .int .i64 t485] 25 (0, 0)) (by (with_reducible repeat (first | refine blk_drewN ?_ _ | refine blk_drew ?_ | refine blk_alloc ?_ _)); exact BK486.out) hb); have n3_ := Aside0.mk (below_step (by repeat (first | (with_reducible first | exact HB.out | apply below_alloc | apply pw_below_drewN | apply below_drew1 | refine below_set ?_ GE486.out) | exact HB.out)) hb); clear HO_487000; clear HO_487001; clear BK486; clear HB; have HO_487000 := n0_; have HO_487001 := n1_; have BK486 := n2_; have HB := n3_; clear n0_ n1_ n2_ n3_; (try clear hb); (try clear hb2); (try clear hk); (try clear hi); obtain ⟨hcz37_0, hcz37_1, hcz37_2, hcz37_3, hcz37_4, hcz37_5, hcz37_6, hcz37_7, hcz37_8, hcz37_9, hcz37_10, hcz37_11, hcz37_12⟩ := cellsK13 BK486.out; obtain ⟨hfz37_0, hfz37_1, hfz37_2, hfz37_3, hfz37_4, hfz37_5, hfz37_6, hfz37_7, hfz37_8, hfz37_9, hfz37_10, hfz37_11, hfz37_12⟩ := frozK13 BK486.out) | (go_at_call 23; (with_reducible refine (bounds_Edge.calls kj8 _ _ t469 _ _ t472 t475 t476 t477 t478 t479 t480 t481 t482 t483 t484 t485 t490 _ ?side1 ?side2 ?side3 ?side4 A34.out).mono ?_); (case side1 => repeat (first | exact (Kd.R_reads' HO_487000.out).2.2 | (with_reducible refine Kd.C_alloc ?_ _) | (with_reducible refine Kd.C_drewN ?_ _) | (with_reducible refine Kd.C_drew ?_))); (case side2 => exact (Kd.R_reads' HO_487000.out).2.1); (case side3 => repeat (first | exact (Kd.R_reads' HO_487001.out).2.2 | (with_reducible refine Kd.C_alloc ?_ _) | (with_reducible refine Kd.C_drewN ?_ _) | (with_reducible refine Kd.C_drew ?_))); (case side4 => exact (Kd.R_reads' HO_487001.out).2.1); rintro e w38 ⟨rfl, hb⟩; have n0_ := Aside0.mk (Kd.R_below (by (with_reducible repeat (first | apply Kd.R_alloc | apply Kd.R_drewN | apply Kd.R_drew)); exact HO_487000.out) hb); have n1_ := Aside0.mk (Kd.R_below (by (with_reducible repeat (first | apply Kd.R_alloc | apply Kd.R_drewN | apply Kd.R_drew)); exact HO_487001.out) hb); have n2_ := Aside0.mk (blk_below (g := gb486) (o := .cells #[.slice Ao12 t469.length co12, .slice Ao14 t472.length co14, .int .i64 t475, .int .i64 t476, .int .i64 t477, .int .i64 t478, .int .i64 t479, .int .i64 t480, .int .i64 t481, .int .i64 t482, .int .i64 t483, .int .i64 t484, .int .i64 t485] 25 (0, 0)) (by (with_reducible repeat (first | refine blk_drewN ?_ _ | refine blk_drew ?_ | refine blk_alloc ?_ _)); exact BK486.out) hb); have n3_ := Aside0.mk (below_step (by repeat (first | (with_reducible first | exact HB.out | apply below_alloc | apply pw_below_drewN | apply below_drew1 | refine below_set ?_ GE486.out) | exact HB.out)) hb); clear HO_487000; clear HO_487001; clear BK486; clear HB; have HO_487000 := n0_; have HO_487001 := n1_; have BK486 := n2_; have HB := n3_; clear n0_ n1_ n2_ n3_; (try clear hb); (try clear hb2); (try clear hk); (try clear hi)))
      go_ret
      exact ⟨by first | rfl | (simp [errW_none, errW_some] <;> rfl) | (simp [*, errW_none, errW_some] <;> rfl), by repeat (first | (with_reducible first | exact HB.out | apply below_alloc | apply pw_below_drewN | apply below_drew1 | refine below_set ?_ GE486.out) | exact HB.out)⟩
     ·rw [if_neg c33] at H
      have c33b0 : decide ((wrap64 (t487 - t488)) < t489) = false := decide_eq_false c33
      clear c33
      obtain rfl := Option.some.inj H
      go_wp2_with (first | ((with_reducible refine gate_callee (f := 22) rfl ?_); refine goesL_ (some 68) rfl rfl Tryd.func22 (by kernel_rfl) rfl #[.int .i64 a1, .int .i64 (wrap64 (a2 + a4))] rfl (by (try simp only [List.map_toArray, List.map_cons, List.map_nil]); first | done | rfl | (simp only [List.length_drop, List.length_take]; rfl)) ?_; (with_reducible refine (clock_Real.calls a1 (wrap64 (a2 + a4)) t487 _ A30.out).mono ?_); rintro e w' ⟨rfl, ⟨nd, rfl⟩⟩; refine ⟨_, rfl, ?_⟩) | ((with_reducible refine gate_callee (f := 22) rfl ?_); refine goesL_ (some 73) rfl rfl Tryd.func22 (by kernel_rfl) rfl #[.int .i64 a1, .int .i64 (wrap64 (a3 + a4))] rfl (by (try simp only [List.map_toArray, List.map_cons, List.map_nil]); first | done | rfl | (simp only [List.length_drop, List.length_take]; rfl)) ?_; (with_reducible refine (clock_Real.calls a1 (wrap64 (a3 + a4)) t488 _ A31.out).mono ?_); rintro e w' ⟨rfl, ⟨nd, rfl⟩⟩; refine ⟨_, rfl, ?_⟩; obtain ⟨hcz39_0, hcz39_1, hcz39_2, hcz39_3, hcz39_4, hcz39_5, hcz39_6, hcz39_7, hcz39_8, hcz39_9, hcz39_10, hcz39_11, hcz39_12⟩ := cellsK13 BK486.out; obtain ⟨hfz39_0, hfz39_1, hfz39_2, hfz39_3, hfz39_4, hfz39_5, hfz39_6, hfz39_7, hfz39_8, hfz39_9, hfz39_10, hfz39_11, hfz39_12⟩ := frozK13 BK486.out) | ((with_reducible refine gate_callee (f := 23) rfl ?_); refine goesL_ (some 77) rfl rfl Tryd.func23 (by kernel_rfl) rfl #[.agg #[.slice Ao12 t469.length co12, .slice Ao14 t472.length co14, .int .i64 t475, .int .i64 t476, .int .i64 t477, .int .i64 t478, .int .i64 t479, .int .i64 t480, .int .i64 t481, .int .i64 t482, .int .i64 t483, .int .i64 t484, .int .i64 t485]] rfl (by (try simp only [List.map_toArray, List.map_cons, List.map_nil]); first | done | rfl | (simp only [List.length_drop, List.length_take]; rfl)) ?_; (with_reducible refine (bounds_Edge.calls kj8 _ _ t469 _ _ t472 t475 t476 t477 t478 t479 t480 t481 t482 t483 t484 t485 t489 _ ?side1 ?side2 ?side3 ?side4 A32.out).mono ?_); (case side1 => repeat (first | exact (Kd.R_reads' HO_487000.out).2.2 | (with_reducible refine Kd.C_alloc ?_ _) | (with_reducible refine Kd.C_drewN ?_ _) | (with_reducible refine Kd.C_drew ?_))); (case side2 => exact (Kd.R_reads' HO_487000.out).2.1); (case side3 => repeat (first | exact (Kd.R_reads' HO_487001.out).2.2 | (with_reducible refine Kd.C_alloc ?_ _) | (with_reducible refine Kd.C_drewN ?_ _) | (with_reducible refine Kd.C_drew ?_))); (case side4 => exact (Kd.R_reads' HO_487001.out).2.1); rintro e w40 ⟨rfl, hb⟩; refine ⟨_, rfl, ?_⟩; have n0_ := Aside0.mk (Kd.R_below (by (with_reducible repeat (first | apply Kd.R_alloc | apply Kd.R_drewN | apply Kd.R_drew)); exact HO_487000.out) hb); have n1_ := Aside0.mk (Kd.R_below (by (with_reducible repeat (first | apply Kd.R_alloc | apply Kd.R_drewN | apply Kd.R_drew)); exact HO_487001.out) hb); have n2_ := Aside0.mk (blk_below (g := gb486) (o := .cells #[.slice Ao12 t469.length co12, .slice Ao14 t472.length co14, .int .i64 t475, .int .i64 t476, .int .i64 t477, .int .i64 t478, .int .i64 t479, .int .i64 t480, .int .i64 t481, .int .i64 t482, .int .i64 t483, .int .i64 t484, .int .i64 t485] 25 (0, 0)) (by (with_reducible repeat (first | refine blk_drewN ?_ _ | refine blk_drew ?_ | refine blk_alloc ?_ _)); exact BK486.out) hb); have n3_ := Aside0.mk (below_step (by repeat (first | (with_reducible first | exact HB.out | apply below_alloc | apply pw_below_drewN | apply below_drew1 | refine below_set ?_ GE486.out) | exact HB.out)) hb); clear HO_487000; clear HO_487001; clear BK486; clear HB; have HO_487000 := n0_; have HO_487001 := n1_; have BK486 := n2_; have HB := n3_; clear n0_ n1_ n2_ n3_; (try clear hb); (try clear hb2); (try clear hk); (try clear hi)))
      go_ret
      exact ⟨by first | rfl | (simp [errW_none, errW_some] <;> rfl) | (simp [*, errW_none, errW_some] <;> rfl), by repeat (first | (with_reducible first | exact HB.out | apply below_alloc | apply pw_below_drewN | apply below_drew1 | refine below_set ?_ GE486.out) | exact HB.out)⟩
 ·replace c7 := Bool.eq_false_iff.mpr c7
  subst c7
  have H1 : (some false) = some r := by rw [if_neg (show ¬ (false = true) by decide)] at H; exact H
  clear H
  have H := H1
  clear H1
  obtain rfl := Option.some.inj H
  go_enter Tryd.func7, Tryd.ntmps7
  go_wp2_with (first | ((with_reducible refine gate_callee (f := 21) rfl ?_); refine goesL_ (some 13) rfl rfl Tryd.func21 (by kernel_rfl) rfl #[] rfl (by (try simp only [List.map_toArray, List.map_cons, List.map_nil]); first | done | rfl | (simp only [List.length_drop, List.length_take]; rfl)) ?_; (with_reducible refine (drumlinelaw8_alive.calls  false _ A6.out).mono ?_); rintro e w' ⟨rfl, ⟨nd, rfl⟩⟩; refine ⟨_, rfl, ?_⟩))
  go_ret
  exact ⟨by first | rfl | (simp [errW_none, errW_some] <;> rfl) | (simp [*, errW_none, errW_some] <;> rfl), by repeat (first | (with_reducible first | exact HB.out | apply below_alloc | apply pw_below_drewN | apply below_drew1) | exact HB.out)⟩

/-- THE ONE PURE STATEMENT of drumlinelaw8_ClockApart: yours. -/
def drumlinelaw8_ClockApart.Pure : Prop := ∀ (a0 : Int) (a1 : Int) (a2 : Int) (a3 : Int) (a4 : Int), (Lit.int .i64 a0).wf = true → (Lit.int .i64 a1).wf = true → (Lit.int .i64 a2).wf = true → (Lit.int .i64 a3).wf = true → (Lit.int .i64 a4).wf = true → ∃ k, drumlinelaw8_ClockApart.f k a0 a1 a2 a3 a4 = some true
theorem drumlinelaw8_ClockApart.walk (P : drumlinelaw8_ClockApart.Pure) (a0 : Int) (a1 : Int) (a2 : Int) (a3 : Int) (a4 : Int) (w : World) (w0 : (Lit.int .i64 a0).wf = true) (w1 : (Lit.int .i64 a1).wf = true) (w2 : (Lit.int .i64 a2).wf = true) (w3 : (Lit.int .i64 a3).wf = true) (w4 : (Lit.int .i64 a4).wf = true) :
  Calls Tryd.prog 7 #[.int .i64 a0, .int .i64 a1, .int .i64 a2, .int .i64 a3, .int .i64 a4] w fun e w' => e = .returned (.bool true) ∧ Below w.heap.size w w' := by
 obtain ⟨k, h⟩ := P a0 a1 a2 a3 a4 w0 w1 w2 w3 w4
 refine (drumlinelaw8_ClockApart.calls k a0 a1 a2 a3 a4 true w h).mono ?_
 rintro e w' ⟨rfl, hd⟩
 exact ⟨rfl, hd⟩

end Go.Proofs.YtkhlndhleiaokaaDoor.MHo
namespace Go.Proofs.YtkhlndhleiaokaaDoor.Plain
open Go.RowKit

theorem wf64 {a : Int} (h : (Lit.int .i64 a).wf = true) : -9223372036854775808 ≤ a ∧ a ≤ 9223372036854775807 := by
  simp [Lit.wf, IntKind.min, IntKind.max, IntKind.signed, IntKind.bits] at h; omega
theorem wf32 {a : Int} (h : (Lit.int .i32 a).wf = true) : -2147483648 ≤ a ∧ a ≤ 2147483647 := by
  simp [Lit.wf, IntKind.min, IntKind.max, IntKind.signed, IntKind.bits] at h; omega
theorem wf16 {a : Int} (h : (Lit.int .i16 a).wf = true) : -32768 ≤ a ∧ a ≤ 32767 := by
  simp [Lit.wf, IntKind.min, IntKind.max, IntKind.signed, IntKind.bits] at h; omega
theorem wfu16 {a : Int} (h : (Lit.int .u16 a).wf = true) : 0 ≤ a ∧ a ≤ 65535 := by
  simp [Lit.wf, IntKind.min, IntKind.max, IntKind.signed, IntKind.bits] at h; omega
theorem wfu32 {a : Int} (h : (Lit.int .u32 a).wf = true) : 0 ≤ a ∧ a ≤ 4294967295 := by
  simp [Lit.wf, IntKind.min, IntKind.max, IntKind.signed, IntKind.bits] at h; omega
theorem wfu8 {a : Int} (h : (Lit.int .u8 a).wf = true) : 0 ≤ a ∧ a ≤ 255 := by
  simp [Lit.wf, IntKind.min, IntKind.max, IntKind.signed, IntKind.bits] at h; omega

theorem w64 {x : Int} (h1 : -9223372036854775808 ≤ x) (h2 : x ≤ 9223372036854775807) : wrap64 x = x := by
  unfold wrap64; omega

/-- What truncation gives of a number and one above 0. -/
theorem tdiv_le {a b : Int} (hb : 1 ≤ b) (h1 : -9223372036854775808 ≤ a) (h2 : a ≤ 9223372036854775807) : -9223372036854775808 ≤ Int.tdiv a b ∧ Int.tdiv a b ≤ 9223372036854775807 := by
  rcases Int.lt_or_le a 0 with h | h
  · have e : Int.tdiv a b = -((-a) / b) := by
      rw [show a = -(-a) by omega, Int.neg_tdiv, Int.neg_neg, Int.tdiv_eq_ediv_of_nonneg (by omega)]
    have h3 : 0 ≤ (-a) / b := Int.ediv_nonneg (by omega) (by omega)
    have h4 : (-a) / b ≤ -a := Int.ediv_le_self _ (by omega)
    omega
  · have e : Int.tdiv a b = a / b := Int.tdiv_eq_ediv_of_nonneg h
    have h3 : 0 ≤ a / b := Int.ediv_nonneg h (by omega)
    have h4 : a / b ≤ a := Int.ediv_le_self _ h
    omega

/-- The quotient rounded down. -/
def flo (a b : Int) : Int := a / b
/-- The quotient rounded up. -/
def cei (a b : Int) : Int := -((-a) / b)

theorem flo_le {a b : Int} (hb : 1 ≤ b) : flo a b * b ≤ a ∧ a < flo a b * b + b := by
  unfold flo
  have h1 := Int.emod_nonneg a (show b ≠ 0 by omega)
  have h2 := Int.emod_lt_of_pos a (show 0 < b by omega)
  have h3 := Int.mul_ediv_add_emod a b
  rw [Int.mul_comm] at h3
  omega
theorem cei_le {a b : Int} (hb : 1 ≤ b) : a ≤ cei a b * b ∧ cei a b * b < a + b := by
  have h := flo_le (a := -a) hb
  unfold cei
  unfold flo at h
  rw [Int.neg_mul]
  omega

theorem rem_neg {a b : Int} (h : a < 0) : Int.tdiv a b = -((-a) / b) ∧ Int.tmod a b = -((-a) % b) := by
  constructor
  · rw [show a = -(-a) by omega, Int.neg_tdiv, Int.neg_neg, Int.tdiv_eq_ediv_of_nonneg (by omega)]
  · rw [show a = -(-a) by omega, Int.neg_tmod, Int.neg_neg, Int.tmod_eq_emod_of_nonneg (by omega)]
theorem rem_pos {a b : Int} (h : 0 ≤ a) : Int.tdiv a b = a / b ∧ Int.tmod a b = a % b :=
  ⟨Int.tdiv_eq_ediv_of_nonneg h, Int.tmod_eq_emod_of_nonneg h⟩

/-- A number q with q * b ≤ a < q * b + b is the quotient. -/
theorem flo_of {a b q : Int} (hb : 1 ≤ b) (h1 : q * b ≤ a) (h2 : a < q * b + b) : q = flo a b := by
  unfold flo
  have e1 : q ≤ a / b := Int.le_ediv_of_mul_le (by omega) h1
  have e2 : a / b < q + 1 := Int.ediv_lt_of_lt_mul (by omega) (by rw [Int.add_mul]; omega)
  omega
theorem cei_of {a b q : Int} (hb : 1 ≤ b) (h1 : a ≤ q * b) (h2 : q * b < a + b) : q = cei a b := by
  unfold cei
  have := flo_of (a := -a) (b := b) (q := -q) hb (by rw [Int.neg_mul]; omega) (by rw [Int.neg_mul]; omega)
  unfold flo at this
  omega

theorem flo_trunc {a b : Int} (hb : 1 ≤ b) : flo a b = if Int.tmod a b < 0 then Int.tdiv a b - 1 else Int.tdiv a b := by
  have hm := Int.mul_tdiv_add_tmod a b
  rw [Int.mul_comm] at hm
  rcases Int.lt_or_le a 0 with h | h
  · obtain ⟨_, e2⟩ := rem_neg (b := b) h
    have h1 := Int.emod_nonneg (-a) (show b ≠ 0 by omega)
    have h2 := Int.emod_lt_of_pos (-a) (show 0 < b by omega)
    split
    · exact (flo_of hb (by rw [Int.sub_mul]; omega) (by rw [Int.sub_mul]; omega)).symm
    · exact (flo_of hb (by omega) (by omega)).symm
  · obtain ⟨_, e2⟩ := rem_pos (b := b) h
    have h1 := Int.emod_nonneg a (show b ≠ 0 by omega)
    have h2 := Int.emod_lt_of_pos a (show 0 < b by omega)
    rw [if_neg (by omega)]
    exact (flo_of hb (by omega) (by omega)).symm
theorem cei_trunc {a b : Int} (hb : 1 ≤ b) : cei a b = if Int.tmod a b > 0 then Int.tdiv a b + 1 else Int.tdiv a b := by
  have hm := Int.mul_tdiv_add_tmod a b
  rw [Int.mul_comm] at hm
  rcases Int.lt_or_le a 0 with h | h
  · obtain ⟨_, e2⟩ := rem_neg (b := b) h
    have h1 := Int.emod_nonneg (-a) (show b ≠ 0 by omega)
    have h2 := Int.emod_lt_of_pos (-a) (show 0 < b by omega)
    rw [if_neg (by omega)]
    exact (cei_of hb (by omega) (by omega)).symm
  · obtain ⟨_, e2⟩ := rem_pos (b := b) h
    have h1 := Int.emod_nonneg a (show b ≠ 0 by omega)
    have h2 := Int.emod_lt_of_pos a (show 0 < b by omega)
    split
    · exact (cei_of hb (by rw [Int.add_mul]; omega) (by rw [Int.add_mul]; omega)).symm
    · exact (cei_of hb (by omega) (by omega)).symm
theorem flo_bd {a b : Int} (hb : 1 ≤ b) (h1 : -9223372036854775808 ≤ a) (h2 : a ≤ 9223372036854775807) : -9223372036854775808 ≤ flo a b ∧ flo a b ≤ 9223372036854775807 := by
  unfold flo
  exact ⟨by
    apply Int.le_ediv_of_mul_le (by omega)
    have := Int.mul_le_mul_of_nonneg_left (a := 1) (b := b) (c := 9223372036854775808) hb (by omega)
    omega, by
    have := flo_le (a := a) hb
    unfold flo at this
    rcases Int.lt_or_le (a / b) 0 with h | h
    · omega
    · have := Int.mul_le_mul_of_nonneg_left (a := 1) (b := b) (c := a / b) hb h
      omega⟩
/-- The quotients differ by 0 or 1, and are alike where nothing is left. -/
theorem flo_cei {a b : Int} (hb : 1 ≤ b) : (flo a b = cei a b ↔ Int.tmod a b = 0) ∧ cei a b - flo a b ≤ 1 := by
  rw [flo_trunc hb, cei_trunc hb]
  split <;> split <;> omega
theorem flo_mono {u v b : Int} (hb : 1 ≤ b) (h : u ≤ v) : flo u b ≤ flo v b := Int.ediv_le_ediv (by omega) h
theorem flo_sub {u v b : Int} (hb : 1 ≤ b) : flo u b - flo v b ≤ flo (u - v) b + 1 := by
  have h1 := flo_le (a := u) hb
  have h2 := flo_le (a := v) hb
  have h3 := flo_le (a := u - v) hb
  have : (flo u b - flo v b) * b < (flo (u - v) b + 2) * b := by rw [Int.sub_mul, Int.add_mul]; omega
  have := Int.lt_of_mul_lt_mul_right this (by omega)
  omega
end Go.Proofs.YtkhlndhleiaokaaDoor.Plain
set_option linter.unusedVariables false
namespace Go.Proofs.YtkhlndhleiaokaaDoor.MHo
open Go.RowKit Go.Proofs.YtkhlndhleiaokaaDoorW.PrintWords
theorem made_cases {X : Nat → Nat → Prop} (h : X 1 0 ∧ X 1 1 ∧ X 1 2 ∧ X 1 3 ∧ X 2 0 ∧ X 2 1 ∧ X 2 2 ∧ X 2 3 ∧ X 3 0 ∧ X 3 1 ∧ X 3 2 ∧ X 3 3 ∧ X 4 0 ∧ X 4 1 ∧ X 4 2 ∧ X 4 3) (q s : Nat) (h1 : 1 ≤ q) (h4 : q ≤ 4) (h3 : s ≤ 3) : X q s := by
  obtain ⟨a1, a2, a3, a4, b1, b2, b3, b4, c1, c2, c3, c4, d1, d2, d3, d4⟩ := h
  rcases (show q = 1 ∨ q = 2 ∨ q = 3 ∨ q = 4 by omega) with rfl | rfl | rfl | rfl <;> rcases (show s = 0 ∨ s = 1 ∨ s = 2 ∨ s = 3 by omega) with rfl | rfl | rfl | rfl <;> assumption
theorem right_made (a2 a3 a4 a5 a6 a7 a8 a9 a10 a11 a12 : Int) (q s : Nat) (h1 : 1 ≤ q) (h4 : q ≤ 4) (h3 : s ≤ 3) : plan_Right.f (madeNet q s).1 (madeNet q s).2 a2 a3 a4 a5 a6 a7 a8 a9 a10 a11 a12 = some true := by
  refine made_cases (X := fun q s => plan_Right.f (madeNet q s).1 (madeNet q s).2 a2 a3 a4 a5 a6 a7 a8 a9 a10 a11 a12 = some true) ⟨?_, ?_, ?_, ?_, ?_, ?_, ?_, ?_, ?_, ?_, ?_, ?_, ?_, ?_, ?_, ?_⟩ q s h1 h4 h3 <;> kernel_rfl
theorem good_made (a2 a3 a4 a5 a6 a7 a8 a9 a10 a11 a12 : Int) (q s : Nat) (h1 : 1 ≤ q) (h4 : q ≤ 4) (h3 : s ≤ 3) : drumlineref5_Good.f (madeNet q s).1 (madeNet q s).2 a2 a3 a4 a5 a6 a7 a8 a9 a10 a11 a12 0 = some true := by
  refine made_cases (X := fun q s => drumlineref5_Good.f (madeNet q s).1 (madeNet q s).2 a2 a3 a4 a5 a6 a7 a8 a9 a10 a11 a12 0 = some true) ⟨?_, ?_, ?_, ?_, ?_, ?_, ?_, ?_, ?_, ?_, ?_, ?_, ?_, ?_, ?_, ?_⟩ q s h1 h4 h3 <;> kernel_rfl
end Go.Proofs.YtkhlndhleiaokaaDoor.MHo
namespace Go.Proofs.YtkhlndhleiaokaaDoor.MHo
open Go.RowKit Go.Proofs.YtkhlndhleiaokaaDoorW.PrintWords Go.Proofs.YtkhlndhleiaokaaDoorW.PrintLast Go.Proofs.YtkhlndhleiaokaaDoorW.PrintMore
attribute [local go_sem] mp_u32s mp_u32m mp_u8s mp_u8m max2_int min2_int max_two min_two max_three min_three max_four min_four   -- for this text's walks alone
set_option linter.unusedVariables false
set_option linter.unusedSimpArgs false

/-! ### bounds_Near: function 25 -/
def bounds_Near.f (k : Nat) (l0_0 : List (S60)) (l0_1 : List (S37)) (a0_2 : Int) (a0_3 : Int) (a0_4 : Int) (a0_5 : Int) (a0_6 : Int) (a0_7 : Int) (a0_8 : Int) (a0_9 : Int) (a0_10 : Int) (a0_11 : Int) (a0_12 : Int) : Option (Int) := (bounds_in.f k l0_0 l0_1 a0_2 a0_3 a0_4 a0_5 a0_6 a0_7 a0_8 a0_9 a0_10 a0_11 a0_12).bind fun bt492 => (some bt492.2.1)
theorem bounds_Near.mono : ∀ a0 a1 a2 a3 a4 a5 a6 a7 a8 a9 a10 a11 a12 k, LeO (bounds_Near.f k a0 a1 a2 a3 a4 a5 a6 a7 a8 a9 a10 a11 a12) (bounds_Near.f (k + 1) a0 a1 a2 a3 a4 a5 a6 a7 a8 a9 a10 a11 a12) := by
 intro a0 a1 a2 a3 a4 a5 a6 a7 a8 a9 a10 a11 a12 k
 unfold bounds_Near.f
 repeat' first
   | (with_reducible exact bounds_in.mono _ _ _ _ _ _ _ _ _ _ _ _ _ _)
   | (with_reducible exact LeO.refl _)
   | (with_reducible exact LeO.none _)
   | (with_reducible refine LeO.ite ?_ ?_)
   | (with_reducible refine LeO.bind ?_ (fun _ => ?_))
   | exact bounds_in.mono _ _ _ _ _ _ _ _ _ _ _ _ _ _
   | exact LeO.none _
   | refine LeO.ite ?_ ?_
   | refine LeO.bind ?_ (fun _ => ?_)
set_option maxHeartbeats 8000000 in
set_option maxRecDepth 100000 in
theorem bounds_Near.calls (k : Nat) (A0_0 : Option Addr) (c0_0 : Nat) (l0_0 : List (S60)) (A0_1 : Option Addr) (c0_1 : Nat) (l0_1 : List (S37)) (a0_2 : Int) (a0_3 : Int) (a0_4 : Int) (a0_5 : Int) (a0_6 : Int) (a0_7 : Int) (a0_8 : Int) (a0_9 : Int) (a0_10 : Int) (a0_11 : Int) (a0_12 : Int) (r : Int) (w : World) (hr0_0 : Kd.C k60 w A0_0 l0_0.length l0_0) (hc0_0 : l0_0.length ≤ c0_0) (hr0_1 : Kd.C k37 w A0_1 l0_1.length l0_1) (hc0_1 : l0_1.length ≤ c0_1) (h : bounds_Near.f k l0_0 l0_1 a0_2 a0_3 a0_4 a0_5 a0_6 a0_7 a0_8 a0_9 a0_10 a0_11 a0_12 = some r) :
  Calls Tryd.prog 25 #[.agg #[.slice A0_0 l0_0.length c0_0, .slice A0_1 l0_1.length c0_1, .int .i64 a0_2, .int .i64 a0_3, .int .i64 a0_4, .int .i64 a0_5, .int .i64 a0_6, .int .i64 a0_7, .int .i64 a0_8, .int .i64 a0_9, .int .i64 a0_10, .int .i64 a0_11, .int .i64 a0_12]] w fun e w' => e = .returned (.int .i64 r) ∧ Below w.heap.size w w' := by
 have hu25 := Tryd.underlying25
 have HR0_0 := Aside0.mk hr0_0
 have HC0_0 := Aside0.mk hc0_0
 clear hr0_0 hc0_0
 have HR0_1 := Aside0.mk hr0_1
 have HC0_1 := Aside0.mk hc0_1
 clear hr0_1 hc0_1
 have HB := Aside0.mk (Below.refl w.heap.size w)
 have H : ((bounds_in.f k l0_0 l0_1 a0_2 a0_3 a0_4 a0_5 a0_6 a0_7 a0_8 a0_9 a0_10 a0_11 a0_12).bind fun bt492 => (some bt492.2.1)) = some r := h
 clear h
 replace H := Option.bind_eq_some_iff.mp H
 obtain ⟨⟨t492, t493, t494, t495, t496, t497, t498⟩, A20, H⟩ := H
 have hfd0 : ∀ w_ : World, (Instr.field 67 (.agg #[.int .i64 t492, .int .i64 t493, .int .i64 t494, .int .i64 t495, .int .i64 t496, .int .i64 t497, .int .i64 t498]) 0).run Tryd.prog w_ = .ok (.int .i64 t492) w_ := fun _ => by kernel_rfl
 have hfd1 : ∀ w_ : World, (Instr.field 67 (.agg #[.int .i64 t492, .int .i64 t493, .int .i64 t494, .int .i64 t495, .int .i64 t496, .int .i64 t497, .int .i64 t498]) 1).run Tryd.prog w_ = .ok (.int .i64 t493) w_ := fun _ => by kernel_rfl
 have hfd5 : ∀ w_ : World, (Instr.field 67 (.agg #[.int .i64 t492, .int .i64 t493, .int .i64 t494, .int .i64 t495, .int .i64 t496, .int .i64 t497, .int .i64 t498]) 5).run Tryd.prog w_ = .ok (.int .i64 t497) w_ := fun _ => by kernel_rfl
 replace H : (some t493) = some r := H
 have A2 := Aside0.mk A20
 clear A20
 obtain rfl := Option.some.inj H
 go_enter Tryd.func25, Tryd.ntmps25
 go_wp2_with (first | ((with_reducible refine gate_dst (N := 1) rfl ?_); refine box_event ?hg (N := 1) ?hd (cs := #[.slice A0_0 l0_0.length c0_0, .slice A0_1 l0_1.length c0_1, .int .i64 a0_2, .int .i64 a0_3, .int .i64 a0_4, .int .i64 a0_5, .int .i64 a0_6, .int .i64 a0_7, .int .i64 a0_8, .int .i64 a0_9, .int .i64 a0_10, .int .i64 a0_11, .int .i64 a0_12]) (t := 25) ?hr ?_; (case hd => rfl); (case hg => rfl); (case hr => first | (go_simp; done) | (go_simp; rfl)); intro gb491 hg w3 hbox hb; have n0_ := Aside0.mk (below_step (by repeat (first | (with_reducible first | exact HB.out | apply below_alloc | apply pw_below_drewN | apply below_drew1) | exact HB.out)) hb); have n1_ := Aside0.mk (hbox); have n2_ := Aside0.mk ((by rw [hg]; exact (below_size (by repeat (first | (with_reducible first | exact HB.out | apply below_alloc | apply pw_below_drewN | apply below_drew1) | exact HB.out))) : w.heap.size ≤ gb491)); have n3_ := Aside0.mk ((by rw [hg]; exact (below_size (by repeat (first | (with_reducible first | exact HB.out | apply below_alloc | apply pw_below_drewN | apply below_drew1) | exact HB.out))) : w.heap.size ≤ gb491)); clear HB; have HB := n0_; have BK491 := n1_; have GW491 := n2_; have GE491 := n3_; clear n0_ n1_ n2_ n3_; clear hb hbox hg; obtain ⟨hcz4_0, hcz4_1, hcz4_2, hcz4_3, hcz4_4, hcz4_5, hcz4_6, hcz4_7, hcz4_8, hcz4_9, hcz4_10, hcz4_11, hcz4_12⟩ := cellsK13 BK491.out; obtain ⟨hfz4_0, hfz4_1, hfz4_2, hfz4_3, hfz4_4, hfz4_5, hfz4_6, hfz4_7, hfz4_8, hfz4_9, hfz4_10, hfz4_11, hfz4_12⟩ := frozK13 BK491.out) | ((with_reducible refine gate_callee (f := 45) rfl ?_); refine goesL_ (some 4) rfl rfl Tryd.func45 (by kernel_rfl) rfl #[.agg #[.slice A0_0 l0_0.length c0_0, .slice A0_1 l0_1.length c0_1, .int .i64 a0_2, .int .i64 a0_3, .int .i64 a0_4, .int .i64 a0_5, .int .i64 a0_6, .int .i64 a0_7, .int .i64 a0_8, .int .i64 a0_9, .int .i64 a0_10, .int .i64 a0_11, .int .i64 a0_12]] rfl (by (try simp only [List.map_toArray, List.map_cons, List.map_nil]); first | done | rfl | (simp only [List.length_drop, List.length_take]; rfl)) ?_; (with_reducible refine (bounds_in.calls k _ _ l0_0 _ _ l0_1 a0_2 a0_3 a0_4 a0_5 a0_6 a0_7 a0_8 a0_9 a0_10 a0_11 a0_12 t492 t493 t494 t495 t496 t497 t498 _ ?side1 ?side2 ?side3 ?side4 A2.out).mono ?_); (case side1 => repeat (first | exact (Kd.C_below HR0_0.out HB.out) | (with_reducible refine Kd.C_alloc ?_ _) | (with_reducible refine Kd.C_drewN ?_ _) | (with_reducible refine Kd.C_drew ?_))); (case side2 => exact HC0_0.out); (case side3 => repeat (first | exact (Kd.C_below HR0_1.out HB.out) | (with_reducible refine Kd.C_alloc ?_ _) | (with_reducible refine Kd.C_drewN ?_ _) | (with_reducible refine Kd.C_drew ?_))); (case side4 => exact HC0_1.out); rintro e w5 ⟨rfl, hb⟩; refine ⟨_, rfl, ?_⟩; have n0_ := Aside0.mk (blk_below (g := gb491) (o := .cells #[.slice A0_0 l0_0.length c0_0, .slice A0_1 l0_1.length c0_1, .int .i64 a0_2, .int .i64 a0_3, .int .i64 a0_4, .int .i64 a0_5, .int .i64 a0_6, .int .i64 a0_7, .int .i64 a0_8, .int .i64 a0_9, .int .i64 a0_10, .int .i64 a0_11, .int .i64 a0_12] 25 (0, 0)) (by (with_reducible repeat (first | refine blk_drewN ?_ _ | refine blk_drew ?_ | refine blk_alloc ?_ _)); exact BK491.out) hb); have n1_ := Aside0.mk (below_step (by repeat (first | (with_reducible first | exact HB.out | apply below_alloc | apply pw_below_drewN | apply below_drew1 | refine below_set ?_ GE491.out) | exact HB.out)) hb); clear BK491; clear HB; have BK491 := n0_; have HB := n1_; clear n0_ n1_; (try clear hb); (try clear hb2); (try clear hk); (try clear hi)))
 go_ret
 exact ⟨by first | rfl | (simp [errW_none, errW_some] <;> rfl) | (simp [*, errW_none, errW_some] <;> rfl), by repeat (first | (with_reducible first | exact HB.out | apply below_alloc | apply pw_below_drewN | apply below_drew1 | refine below_set ?_ GE491.out) | exact HB.out)⟩


/-! ### bounds_Tick: function 29 -/
def bounds_Tick.f (k : Nat) (l0_0 : List (S60)) (l0_1 : List (S37)) (a0_2 : Int) (a0_3 : Int) (a0_4 : Int) (a0_5 : Int) (a0_6 : Int) (a0_7 : Int) (a0_8 : Int) (a0_9 : Int) (a0_10 : Int) (a0_11 : Int) (a0_12 : Int) : Option (Int) := (bounds_in.f k l0_0 l0_1 a0_2 a0_3 a0_4 a0_5 a0_6 a0_7 a0_8 a0_9 a0_10 a0_11 a0_12).bind fun bt506 => (some bt506.2.2.2.2.2.1)
theorem bounds_Tick.mono : ∀ a0 a1 a2 a3 a4 a5 a6 a7 a8 a9 a10 a11 a12 k, LeO (bounds_Tick.f k a0 a1 a2 a3 a4 a5 a6 a7 a8 a9 a10 a11 a12) (bounds_Tick.f (k + 1) a0 a1 a2 a3 a4 a5 a6 a7 a8 a9 a10 a11 a12) := by
 intro a0 a1 a2 a3 a4 a5 a6 a7 a8 a9 a10 a11 a12 k
 unfold bounds_Tick.f
 repeat' first
   | (with_reducible exact bounds_in.mono _ _ _ _ _ _ _ _ _ _ _ _ _ _)
   | (with_reducible exact LeO.refl _)
   | (with_reducible exact LeO.none _)
   | (with_reducible refine LeO.ite ?_ ?_)
   | (with_reducible refine LeO.bind ?_ (fun _ => ?_))
   | exact bounds_in.mono _ _ _ _ _ _ _ _ _ _ _ _ _ _
   | exact LeO.none _
   | refine LeO.ite ?_ ?_
   | refine LeO.bind ?_ (fun _ => ?_)
set_option maxHeartbeats 8000000 in
set_option maxRecDepth 100000 in
theorem bounds_Tick.calls (k : Nat) (A0_0 : Option Addr) (c0_0 : Nat) (l0_0 : List (S60)) (A0_1 : Option Addr) (c0_1 : Nat) (l0_1 : List (S37)) (a0_2 : Int) (a0_3 : Int) (a0_4 : Int) (a0_5 : Int) (a0_6 : Int) (a0_7 : Int) (a0_8 : Int) (a0_9 : Int) (a0_10 : Int) (a0_11 : Int) (a0_12 : Int) (r : Int) (w : World) (hr0_0 : Kd.C k60 w A0_0 l0_0.length l0_0) (hc0_0 : l0_0.length ≤ c0_0) (hr0_1 : Kd.C k37 w A0_1 l0_1.length l0_1) (hc0_1 : l0_1.length ≤ c0_1) (h : bounds_Tick.f k l0_0 l0_1 a0_2 a0_3 a0_4 a0_5 a0_6 a0_7 a0_8 a0_9 a0_10 a0_11 a0_12 = some r) :
  Calls Tryd.prog 29 #[.agg #[.slice A0_0 l0_0.length c0_0, .slice A0_1 l0_1.length c0_1, .int .i64 a0_2, .int .i64 a0_3, .int .i64 a0_4, .int .i64 a0_5, .int .i64 a0_6, .int .i64 a0_7, .int .i64 a0_8, .int .i64 a0_9, .int .i64 a0_10, .int .i64 a0_11, .int .i64 a0_12]] w fun e w' => e = .returned (.int .i64 r) ∧ Below w.heap.size w w' := by
 have hu25 := Tryd.underlying25
 have HR0_0 := Aside0.mk hr0_0
 have HC0_0 := Aside0.mk hc0_0
 clear hr0_0 hc0_0
 have HR0_1 := Aside0.mk hr0_1
 have HC0_1 := Aside0.mk hc0_1
 clear hr0_1 hc0_1
 have HB := Aside0.mk (Below.refl w.heap.size w)
 have H : ((bounds_in.f k l0_0 l0_1 a0_2 a0_3 a0_4 a0_5 a0_6 a0_7 a0_8 a0_9 a0_10 a0_11 a0_12).bind fun bt506 => (some bt506.2.2.2.2.2.1)) = some r := h
 clear h
 replace H := Option.bind_eq_some_iff.mp H
 obtain ⟨⟨t506, t507, t508, t509, t510, t511, t512⟩, A20, H⟩ := H
 have hfd0 : ∀ w_ : World, (Instr.field 67 (.agg #[.int .i64 t506, .int .i64 t507, .int .i64 t508, .int .i64 t509, .int .i64 t510, .int .i64 t511, .int .i64 t512]) 0).run Tryd.prog w_ = .ok (.int .i64 t506) w_ := fun _ => by kernel_rfl
 have hfd1 : ∀ w_ : World, (Instr.field 67 (.agg #[.int .i64 t506, .int .i64 t507, .int .i64 t508, .int .i64 t509, .int .i64 t510, .int .i64 t511, .int .i64 t512]) 1).run Tryd.prog w_ = .ok (.int .i64 t507) w_ := fun _ => by kernel_rfl
 have hfd5 : ∀ w_ : World, (Instr.field 67 (.agg #[.int .i64 t506, .int .i64 t507, .int .i64 t508, .int .i64 t509, .int .i64 t510, .int .i64 t511, .int .i64 t512]) 5).run Tryd.prog w_ = .ok (.int .i64 t511) w_ := fun _ => by kernel_rfl
 replace H : (some t511) = some r := H
 have A2 := Aside0.mk A20
 clear A20
 obtain rfl := Option.some.inj H
 go_enter Tryd.func29, Tryd.ntmps29
 go_wp2_with (first | ((with_reducible refine gate_dst (N := 1) rfl ?_); refine box_event ?hg (N := 1) ?hd (cs := #[.slice A0_0 l0_0.length c0_0, .slice A0_1 l0_1.length c0_1, .int .i64 a0_2, .int .i64 a0_3, .int .i64 a0_4, .int .i64 a0_5, .int .i64 a0_6, .int .i64 a0_7, .int .i64 a0_8, .int .i64 a0_9, .int .i64 a0_10, .int .i64 a0_11, .int .i64 a0_12]) (t := 25) ?hr ?_; (case hd => rfl); (case hg => rfl); (case hr => first | (go_simp; done) | (go_simp; rfl)); intro gb505 hg w3 hbox hb; have n0_ := Aside0.mk (below_step (by repeat (first | (with_reducible first | exact HB.out | apply below_alloc | apply pw_below_drewN | apply below_drew1) | exact HB.out)) hb); have n1_ := Aside0.mk (hbox); have n2_ := Aside0.mk ((by rw [hg]; exact (below_size (by repeat (first | (with_reducible first | exact HB.out | apply below_alloc | apply pw_below_drewN | apply below_drew1) | exact HB.out))) : w.heap.size ≤ gb505)); have n3_ := Aside0.mk ((by rw [hg]; exact (below_size (by repeat (first | (with_reducible first | exact HB.out | apply below_alloc | apply pw_below_drewN | apply below_drew1) | exact HB.out))) : w.heap.size ≤ gb505)); clear HB; have HB := n0_; have BK505 := n1_; have GW505 := n2_; have GE505 := n3_; clear n0_ n1_ n2_ n3_; clear hb hbox hg; obtain ⟨hcz4_0, hcz4_1, hcz4_2, hcz4_3, hcz4_4, hcz4_5, hcz4_6, hcz4_7, hcz4_8, hcz4_9, hcz4_10, hcz4_11, hcz4_12⟩ := cellsK13 BK505.out; obtain ⟨hfz4_0, hfz4_1, hfz4_2, hfz4_3, hfz4_4, hfz4_5, hfz4_6, hfz4_7, hfz4_8, hfz4_9, hfz4_10, hfz4_11, hfz4_12⟩ := frozK13 BK505.out) | ((with_reducible refine gate_callee (f := 45) rfl ?_); refine goesL_ (some 4) rfl rfl Tryd.func45 (by kernel_rfl) rfl #[.agg #[.slice A0_0 l0_0.length c0_0, .slice A0_1 l0_1.length c0_1, .int .i64 a0_2, .int .i64 a0_3, .int .i64 a0_4, .int .i64 a0_5, .int .i64 a0_6, .int .i64 a0_7, .int .i64 a0_8, .int .i64 a0_9, .int .i64 a0_10, .int .i64 a0_11, .int .i64 a0_12]] rfl (by (try simp only [List.map_toArray, List.map_cons, List.map_nil]); first | done | rfl | (simp only [List.length_drop, List.length_take]; rfl)) ?_; (with_reducible refine (bounds_in.calls k _ _ l0_0 _ _ l0_1 a0_2 a0_3 a0_4 a0_5 a0_6 a0_7 a0_8 a0_9 a0_10 a0_11 a0_12 t506 t507 t508 t509 t510 t511 t512 _ ?side1 ?side2 ?side3 ?side4 A2.out).mono ?_); (case side1 => repeat (first | exact (Kd.C_below HR0_0.out HB.out) | (with_reducible refine Kd.C_alloc ?_ _) | (with_reducible refine Kd.C_drewN ?_ _) | (with_reducible refine Kd.C_drew ?_))); (case side2 => exact HC0_0.out); (case side3 => repeat (first | exact (Kd.C_below HR0_1.out HB.out) | (with_reducible refine Kd.C_alloc ?_ _) | (with_reducible refine Kd.C_drewN ?_ _) | (with_reducible refine Kd.C_drew ?_))); (case side4 => exact HC0_1.out); rintro e w5 ⟨rfl, hb⟩; refine ⟨_, rfl, ?_⟩; have n0_ := Aside0.mk (blk_below (g := gb505) (o := .cells #[.slice A0_0 l0_0.length c0_0, .slice A0_1 l0_1.length c0_1, .int .i64 a0_2, .int .i64 a0_3, .int .i64 a0_4, .int .i64 a0_5, .int .i64 a0_6, .int .i64 a0_7, .int .i64 a0_8, .int .i64 a0_9, .int .i64 a0_10, .int .i64 a0_11, .int .i64 a0_12] 25 (0, 0)) (by (with_reducible repeat (first | refine blk_drewN ?_ _ | refine blk_drew ?_ | refine blk_alloc ?_ _)); exact BK505.out) hb); have n1_ := Aside0.mk (below_step (by repeat (first | (with_reducible first | exact HB.out | apply below_alloc | apply pw_below_drewN | apply below_drew1 | refine below_set ?_ GE505.out) | exact HB.out)) hb); clear BK505; clear HB; have BK505 := n0_; have HB := n1_; clear n0_ n1_; (try clear hb); (try clear hb2); (try clear hk); (try clear hi)))
 go_ret
 exact ⟨by first | rfl | (simp [errW_none, errW_some] <;> rfl) | (simp [*, errW_none, errW_some] <;> rfl), by repeat (first | (with_reducible first | exact HB.out | apply below_alloc | apply pw_below_drewN | apply below_drew1 | refine below_set ?_ GE505.out) | exact HB.out)⟩

end Go.Proofs.YtkhlndhleiaokaaDoor.MHo
set_option linter.unusedVariables false
set_option linter.unusedSimpArgs false
namespace Go.Proofs.YtkhlndhleiaokaaDoor.MHo
open Go.RowKit Go.Proofs.YtkhlndhleiaokaaDoorW.PrintWords Go.Proofs.YtkhlndhleiaokaaDoor.Plain

theorem floor_eq {a b : Int} (h1 : -9223372036854775808 ≤ a) (h2 : a ≤ 9223372036854775807) : ticks_Floor.f a b = some (if b < 1 then (0, false) else (flo a b, true)) := by
  unfold ticks_Floor.f
  by_cases hb : b < 1
  · rw [if_pos hb, if_pos hb]
  · have ht := tdiv_le (a := a) (b := b) (by omega) h1 h2
    have hf := flo_bd (a := a) (b := b) (by omega) h1 h2
    have he := flo_trunc (a := a) (b := b) (by omega)
    rw [if_neg hb, if_neg (by omega), if_neg hb, w64 ht.1 ht.2]
    by_cases hm : Int.tmod a b < 0
    · rw [if_pos hm] at he ⊢
      rw [w64 (by omega) (by omega), he]
    · rw [if_neg hm] at he ⊢
      rw [he]

theorem mul_bd {x p X P : Int} (h1 : -X ≤ x) (h2 : x ≤ X) (h3 : -P ≤ p) (h4 : p ≤ P) : -(X * P) ≤ x * p ∧ x * p ≤ X * P := by
  rcases Int.lt_or_le x 0 with hx | hx
  · have a := Int.mul_le_mul_of_nonneg_left (c := -x) (a := -P) (b := p) h3 (by omega)
    have b := Int.mul_le_mul_of_nonneg_left (c := -x) (a := p) (b := P) h4 (by omega)
    have c := Int.mul_le_mul_of_nonneg_right (c := P) (a := -x) (b := X) (by omega) (by omega)
    simp only [Int.neg_mul, Int.mul_neg] at a b c
    omega
  · have a := Int.mul_le_mul_of_nonneg_left (c := x) (a := -P) (b := p) h3 (by omega)
    have b := Int.mul_le_mul_of_nonneg_left (c := x) (a := p) (b := P) h4 (by omega)
    have c := Int.mul_le_mul_of_nonneg_right (c := P) (a := x) (b := X) (by omega) (by omega)
    simp only [Int.mul_neg] at a
    omega
theorem scale_eq {x p : Int} (h1 : -1099511627776 ≤ x) (h2 : x ≤ 1099511627776) (h3 : -1000000 ≤ p) (h4 : p ≤ 1000000) : ticks_Scale.f x p = some (flo (x * p) 1000000, true) := by
  obtain ⟨b1, b2⟩ := mul_bd h1 h2 h3 h4
  unfold ticks_Scale.f ticks_Time.f
  rw [if_pos (by omega)]
  simp only [Option.bind_some, decide_eq_true_eq]
  rw [if_pos (by omega), if_neg (by omega), if_neg (by omega), w64 (by omega) (by omega), floor_eq (by omega) (by omega)]
  rfl
theorem real_eq {x p : Int} (h1 : -1099511627776 ≤ x) (h2 : x ≤ 1099511627776) (h3 : -1000000 ≤ p) (h4 : p ≤ 1000000) : clock_Real.f x p = some (x - flo (x * p) 1000000) := by
  obtain ⟨b1, b2⟩ := mul_bd h1 h2 h3 h4
  have f := flo_le (a := x * p) (b := 1000000) (by omega)
  unfold clock_Real.f
  rw [scale_eq h1 h2 h3 h4]
  simp only [Option.bind_some]
  rw [w64 (by omega) (by omega)]
theorem local_eq {x p : Int} (h1 : -1099511627776 ≤ x) (h2 : x ≤ 1099511627776) (h3 : -1000000 ≤ p) (h4 : p ≤ 1000000) : clock_Local.f x p = some (x + flo (x * p) 1000000) := by
  obtain ⟨b1, b2⟩ := mul_bd h1 h2 h3 h4
  have f := flo_le (a := x * p) (b := 1000000) (by omega)
  unfold clock_Local.f
  rw [scale_eq h1 h2 h3 h4]
  simp only [Option.bind_some]
  rw [w64 (by omega) (by omega)]
/-- Rounded up, of parts of a million. -/
def up (d : Int) : Int := (d + 999999) / 1000000
theorem ceil_eq {d : Int} (h0 : 0 ≤ d) (h1 : d ≤ 1000000000000) : drumlineref1_Ceil.f d 1000000 = some (up d, true) := by
  unfold drumlineref1_Ceil.f up
  rw [if_neg (by omega), if_neg (by omega), Int.tmod_eq_emod_of_nonneg h0, Int.tdiv_eq_ediv_of_nonneg h0]
  have e : wrap64 (d / 1000000) = d / 1000000 := by unfold wrap64; omega
  rw [e]
  by_cases h : d % 1000000 > 0
  · rw [if_pos h, show wrap64 (d / 1000000 + 1) = d / 1000000 + 1 by unfold wrap64; omega, show d / 1000000 + 1 = (d + 999999) / 1000000 by omega]
  · rw [if_neg h, show d / 1000000 = (d + 999999) / 1000000 by omega]
theorem tceil_eq {d : Int} (h0 : 0 ≤ d) (h1 : d ≤ 1000000000000) : ticks_Ceil.f d 1000000 = some (up d, true) := ceil_eq h0 h1
theorem up_eq {d : Int} (h0 : 0 ≤ d) (h1 : d ≤ 1000000000000) : drumlineref5_up.f d = some (up d) := by
  unfold drumlineref5_up.f; rw [ceil_eq h0 h1]; rfl
theorem part_eq {d : Int} (h0 : 0 ≤ d) (h1 : d ≤ 1000000000000) : bounds_part.f d = some (up d) := by
  unfold bounds_part.f; rw [tceil_eq h0 h1]; rfl
/-- What a network's drift and cycle come to. -/
def Eg (dr cyc : Int) : Int := up (2 * dr * cyc) + 1
theorem dc_bd {dr cyc : Int} (h1 : 0 ≤ dr) (h2 : dr ≤ 140) (h3 : 20000 ≤ cyc) (h4 : cyc ≤ 27000) : 0 ≤ dr * cyc ∧ dr * cyc ≤ 3780000 ∧ 2 * dr * cyc = 2 * (dr * cyc) := by
  refine ⟨Int.mul_nonneg h1 (by omega), ?_, Int.mul_assoc 2 dr cyc⟩
  calc dr * cyc ≤ 140 * cyc := Int.mul_le_mul_of_nonneg_right h2 (by omega)
    _ ≤ 3780000 := by omega
theorem Eg_bd {dr cyc : Int} (h1 : 0 ≤ dr) (h2 : dr ≤ 140) (h3 : 20000 ≤ cyc) (h4 : cyc ≤ 27000) : 1 ≤ Eg dr cyc ∧ Eg dr cyc ≤ 9 := by
  have := dc_bd h1 h2 h3 h4
  unfold Eg up; omega
theorem edge_eq (P : List S60) (L : List S37) {a2 a3 a4 a5 a6 a7 a8 a9 a10 a11 a12 : Int} (h1 : 0 ≤ a6) (h2 : a6 ≤ 140) (h3 : 20000 ≤ a2) (h4 : a2 ≤ 27000) : drumlineref5_edge.f P L a2 a3 a4 a5 a6 a7 a8 a9 a10 a11 a12 = some (Eg a6 a2) := by
  have hb := dc_bd h1 h2 h3 h4
  unfold drumlineref5_edge.f
  rw [show wrap64 (2 * a6) = 2 * a6 by unfold wrap64; omega, show wrap64 (2 * a6 * a2) = 2 * a6 * a2 by unfold wrap64; omega, up_eq (by omega) (by omega)]
  simp only [Option.bind_some]
  have := Eg_bd h1 h2 h3 h4
  unfold Eg at *
  rw [show wrap64 (up (2 * a6 * a2) + 1) = up (2 * a6 * a2) + 1 by unfold wrap64; omega]
theorem out_eq (P : List S60) (L : List S37) {a2 a3 a4 a5 a6 a7 a8 a9 a10 a11 a12 : Int} (k : Nat) (h1 : 1000 ≤ a2) (h2 : a2 ≤ 1000000) (h3 : 0 ≤ a6) (h4 : a6 ≤ 500) (h5 : 0 ≤ a7) (h6 : a7 ≤ 400000) (h7 : 1 ≤ a8) (h8 : a8 ≤ 200) (h9 : 0 ≤ a9) (h10 : a9 ≤ 20) :
    drumlineref5_out.f (k + 4) P L a2 a3 a4 a5 a6 a7 a8 a9 a10 a11 a12 = some 0 := by
  unfold drumlineref5_out.f
  rw [if_neg (by omega), show decide (a2 > 1000000) = false from decide_eq_false (by omega), drumlineref5_out.j0, if_neg (by decide), if_neg (by omega), show decide (a6 > 500) = false from decide_eq_false (by omega), drumlineref5_out.j1, if_neg (by decide), if_neg (by omega), show decide (a7 > 400000) = false from decide_eq_false (by omega), drumlineref5_out.j2, if_neg (by decide), if_neg (by omega), show decide (a8 > 200) = false from decide_eq_false (by omega), drumlineref5_out.j3, if_neg (by decide), if_neg (by omega), if_neg (by omega)]
theorem Edge_eq (q s : Nat) {a2 a3 a4 a5 a6 a7 a8 a9 a10 a11 a12 : Int} (g1 : 1 ≤ q) (g4 : q ≤ 4) (g3 : s ≤ 3) (h1 : 0 ≤ a6) (h2 : a6 ≤ 140) (h3 : 20000 ≤ a2) (h4 : a2 ≤ 27000) (h5 : 0 ≤ a7) (h6 : a7 ≤ 400000) (h7 : 1 ≤ a8) (h8 : a8 ≤ 200) (h9 : 0 ≤ a9) (h10 : a9 ≤ 20) :
    drumlineref5_Edge.f 100 (madeNet q s).1 (madeNet q s).2 a2 a3 a4 a5 a6 a7 a8 a9 a10 a11 a12 = some (Eg a6 a2) := by
  unfold drumlineref5_Edge.f drumlineref5_ranged.f
  rw [good_made a2 a3 a4 a5 a6 a7 a8 a9 a10 a11 a12 q s g1 g4 g3]
  simp only [Option.bind_some, if_true]
  rw [show drumlineref5_out.f 100 (madeNet q s).1 (madeNet q s).2 a2 a3 a4 a5 a6 a7 a8 a9 a10 a11 a12 = some 0 from out_eq _ _ 96 (by omega) (by omega) h1 (by omega) h5 h6 h7 h8 h9 h10]
  simp only [Option.bind_some, beq_self_eq_true, if_true]
  rw [edge_eq _ _ h1 h2 h3 h4]
  rfl
theorem ranged_eq (P : List S60) (L : List S37) {a2 a3 a4 a5 a6 a7 a8 a9 a10 a11 a12 : Int} (h1 : 1000 ≤ a2) (h2 : a2 ≤ 1000000) (h3 : 0 ≤ a6) (h4 : a6 ≤ 500) (h5 : 0 ≤ a7) (h6 : a7 ≤ 400000) (h7 : 1 ≤ a8) (h8 : a8 ≤ 200) (h9 : 0 ≤ a9) (h10 : a9 ≤ 20) :
    bounds_ranged.f 100 P L a2 a3 a4 a5 a6 a7 a8 a9 a10 a11 a12 = some 0 := by
  unfold bounds_ranged.f bounds_within.f
  rw [if_pos h1, if_pos h3, if_pos h5, if_pos h7, if_pos h9, decide_eq_true h2, decide_eq_true h4, decide_eq_true h6, decide_eq_true h8, decide_eq_true h10]
  have : bounds_first.f 100 1 [true, true, true, true, true] = some 0 := by kernel_rfl
  simp only [Option.bind_some]
  rw [this]
  rfl
/-- What Tick comes to. -/
def Tk (dr cyc rate : Int) : Int := 2 * Eg dr cyc + Eg dr cyc + up (2 * Eg dr cyc * (rate + dr)) + 1
theorem in_eq (q s : Nat) {a2 a3 a4 a5 a6 a7 a8 a9 a10 a11 a12 : Int} (g1 : 1 ≤ q) (g4 : q ≤ 4) (g3 : s ≤ 3) (h1 : 0 ≤ a6) (h2 : a6 ≤ 140) (h3 : 20000 ≤ a2) (h4 : a2 ≤ 27000) (h5 : 0 ≤ a7) (h6 : a7 ≤ 400000) (h7 : 1 ≤ a8) (h8 : a8 ≤ 200) (h9 : 0 ≤ a9) (h10 : a9 ≤ 20) :
    ∃ b3 b4 b5 b7, bounds_in.f 100 (madeNet q s).1 (madeNet q s).2 a2 a3 a4 a5 a6 a7 a8 a9 a10 a11 a12 = some (Eg a6 a2, 2 * Eg a6 a2, b3, b4, b5, Tk a6 a2 a7, b7) := by
  have hb := dc_bd h1 h2 h3 h4
  have he := Eg_bd h1 h2 h3 h4
  unfold bounds_in.f
  rw [right_made a2 a3 a4 a5 a6 a7 a8 a9 a10 a11 a12 q s g1 g4 g3]
  simp only [Option.bind_some, if_true]
  rw [ranged_eq _ _ (by omega) (by omega) h1 (by omega) h5 h6 h7 h8 h9 h10]
  simp only [Option.bind_some, if_true]
  unfold bounds_Reckon.f
  rw [show wrap64 (2 * a6) = 2 * a6 by unfold wrap64; omega, show wrap64 (2 * a6 * a2) = 2 * a6 * a2 by unfold wrap64; omega, part_eq (by omega) (by omega)]
  simp only [Option.bind_some]
  rw [show wrap64 (a6 * a2) = a6 * a2 by unfold wrap64; omega, part_eq (by omega) (by omega)]
  simp only [Option.bind_some]
  have e1 : up (2 * a6 * a2) + 1 = Eg a6 a2 := rfl
  have hm : 0 ≤ 2 * Eg a6 a2 * (a7 + a6) ∧ 2 * Eg a6 a2 * (a7 + a6) ≤ 18 * (a7 + a6) := ⟨Int.mul_nonneg (by omega) (by omega), Int.mul_le_mul_of_nonneg_right (by omega) (by omega)⟩
  rw [e1, show wrap64 (Eg a6 a2) = Eg a6 a2 by unfold wrap64; omega, show wrap64 (2 * Eg a6 a2) = 2 * Eg a6 a2 by unfold wrap64; omega, show wrap64 (a7 + a6) = a7 + a6 by unfold wrap64; omega, show wrap64 (2 * Eg a6 a2 * (a7 + a6)) = 2 * Eg a6 a2 * (a7 + a6) by unfold wrap64; omega, part_eq (by omega) (by omega)]
  simp only [Option.bind_some]
  have hu : 0 ≤ up (2 * Eg a6 a2 * (a7 + a6)) ∧ up (2 * Eg a6 a2 * (a7 + a6)) ≤ 100 := by unfold up; omega
  rw [show wrap64 (2 * Eg a6 a2 + Eg a6 a2) = 2 * Eg a6 a2 + Eg a6 a2 by unfold wrap64; omega, show wrap64 (2 * Eg a6 a2 + Eg a6 a2 + up (2 * Eg a6 a2 * (a7 + a6))) = 2 * Eg a6 a2 + Eg a6 a2 + up (2 * Eg a6 a2 * (a7 + a6)) by unfold wrap64; omega, show wrap64 (2 * Eg a6 a2 + Eg a6 a2 + up (2 * Eg a6 a2 * (a7 + a6)) + 1) = Tk a6 a2 a7 by unfold Tk wrap64; omega]
  exact ⟨_, _, _, _, rfl⟩
/-- What Made makes of a number. -/
theorem made_eq (n : Int) : ∃ (q s : Nat) (cyc dr ag lo li sp : Int), 1 ≤ q ∧ q ≤ 4 ∧ s ≤ 3 ∧ 20000 ≤ cyc ∧ cyc ≤ 27000 ∧ 0 ≤ dr ∧ dr ≤ 140 ∧ 1 ≤ ag ∧ ag ≤ 200 ∧ 0 ≤ lo ∧ lo ≤ 20 ∧
    drumlineref26_Made.f n = some ((madeNet q s).1, (madeNet q s).2, cyc, 60, 100, 3 * Eg dr cyc, dr, 300000, ag, lo, li, sp, 12) := by
  have hk : 0 ≤ (((1 + n % 65536 % 4).toNat : Int) - 1) * (n % 65536 / 1024 % 2 + 1) ∧ (((1 + n % 65536 % 4).toNat : Int) - 1) * (n % 65536 / 1024 % 2 + 1) ≤ 8 := by
    rcases (show n % 65536 / 1024 % 2 = 0 ∨ n % 65536 / 1024 % 2 = 1 by omega) with h | h <;> rw [h] <;> omega
  refine ⟨(1 + n % 65536 % 4).toNat, (n % 65536 / 4 % 4).toNat, 20000 + 1000 * (n % 65536 / 16 % 8), 20 * (n % 65536 / 128 % 8), (((1 + n % 65536 % 4).toNat : Int) - 1) * (n % 65536 / 1024 % 2 + 1) + 1 + n % 65536 / 2048 % 4, n % 65536 / 1024 % 2, ((1 + n % 65536 % 4).toNat : Int) * (n % 65536 / 1024 % 2 + 1) + 2 + n % 65536 / 8192 % 2, ((1 + n % 65536 % 4).toNat : Int) * (n % 65536 / 1024 % 2 + 1) + 2, by omega, by omega, by omega, by omega, by omega, by omega, by omega, by omega, by omega, by omega, by omega, ?_⟩
  unfold drumlineref26_Made.f
  rw [Edge_eq _ _ (by omega) (by omega) (by omega) (by omega) (by omega) (by omega) (by omega) (by omega) (by omega) (by omega) (by omega) (by omega) (by omega)]
  simp only [Option.bind_some]
  have := Eg_bd (dr := 20 * (n % 65536 / 128 % 8)) (cyc := 20000 + 1000 * (n % 65536 / 16 % 8)) (by omega) (by omega) (by omega) (by omega)
  rw [if_pos (by omega)]
end Go.Proofs.YtkhlndhleiaokaaDoor.MHo
set_option linter.unusedVariables false
set_option linter.unusedSimpArgs false
namespace Go.Proofs.YtkhlndhleiaokaaDoor.Pure
open Go.RowKit Go.Proofs.YtkhlndhleiaokaaDoor.MHo Go.Proofs.YtkhlndhleiaokaaDoorW.PrintWords Go.Proofs.YtkhlndhleiaokaaDoorW.PrintLast Go.Proofs.YtkhlndhleiaokaaDoorW.PrintMore Go.Proofs.YtkhlndhleiaokaaDoor.Plain

theorem alive_true : drumlinelaw8_alive.f = some true := by decide +kernel
theorem within_ (x p q r dr cyc : Int) (x0 : 0 ≤ x) (x1 : x ≤ cyc) (p0 : -dr ≤ p) (p1 : p ≤ dr) (q0 : -dr ≤ q) (q1 : q ≤ dr) (c2 : cyc ≤ 27000) (d1 : 0 ≤ dr) (d2 : dr ≤ 140) (r0 : -300000 ≤ r) (r1 : r ≤ 300000) :
    flo (x * (q + r)) 1000000 - flo (x * (p + r)) 1000000 < Eg dr cyc ∧ -900000 ≤ flo (x * (p + r)) 1000000 ∧ flo (x * (p + r)) 1000000 ≤ 900000 := by
  have e : x * (q + r) - x * (p + r) = x * (q - p) := by rw [← Int.mul_sub]; congr 1; omega
  obtain ⟨b1, b2⟩ := mul_bd (x := x) (p := q - p) (X := cyc) (P := 2 * dr) (by omega) x1 (by omega) (by omega)
  obtain ⟨b3, b4⟩ := mul_bd (x := x) (p := p + r) (X := 27000) (P := 300140) (by omega) (by omega) (by omega) (by omega)
  have e2 : 2 * dr * cyc = cyc * (2 * dr) := Int.mul_comm _ _
  unfold Eg MHo.up flo
  rw [e2]
  generalize x * (q + r) = A at *
  generalize x * (p + r) = B at *
  generalize x * (q - p) = C at *
  generalize cyc * (2 * dr) = D at *
  omega
theorem j_true (k : Nat) (x p q r : Int) (P : List S60) (L : List S37) (cyc a3 a4 a5 dr a7 a8 a9 a10 a11 a12 : Int) : drumlinelaw8_ClockApart.j0 (k + 1) x p q r true P L cyc a3 a4 a5 dr a7 a8 a9 a10 a11 a12 = some true := by
  rw [drumlinelaw8_ClockApart.j0, if_pos rfl]
theorem j_false (x p q r : Int) (P : List S60) (L : List S37) (cyc dr ag lo li sp : Int) (hin : ∃ b3 b4 b5 b7, bounds_in.f 100 P L cyc 60 100 (3 * Eg dr cyc) dr 300000 ag lo li sp 12 = some (Eg dr cyc, 2 * Eg dr cyc, b3, b4, b5, Tk dr cyc 300000, b7)) (c1 : 20000 ≤ cyc) (c2 : cyc ≤ 27000) (d1 : 0 ≤ dr) (d2 : dr ≤ 140) (x0 : 0 ≤ x) (x1 : x ≤ cyc) (p0 : -dr ≤ p) (p1 : p ≤ dr) (q0 : -dr ≤ q) (q1 : q ≤ dr) (r0 : -300000 ≤ r) (r1 : r ≤ 300000) :
    drumlinelaw8_ClockApart.j0 101 x p q r false P L cyc 60 100 (3 * Eg dr cyc) dr 300000 ag lo li sp 12 = some true := by
  obtain ⟨b3, b4, b5, b7, hin⟩ := hin
  have hE : bounds_Edge.f 100 P L cyc 60 100 (3 * Eg dr cyc) dr 300000 ag lo li sp 12 = some (Eg dr cyc) := by unfold bounds_Edge.f; rw [hin]; rfl
  obtain ⟨u1, u2, u3⟩ := within_ x p q r dr cyc x0 x1 p0 p1 q0 q1 c2 d1 d2 r0 r1
  obtain ⟨v1, v2, v3⟩ := within_ x q p r dr cyc x0 x1 q0 q1 p0 p1 c2 d1 d2 r0 r1
  rw [drumlinelaw8_ClockApart.j0, if_neg (by decide), w64 (x := p + r) (by omega) (by omega), w64 (x := q + r) (by omega) (by omega), real_eq (by omega) (by omega) (by omega) (by omega), real_eq (by omega) (by omega) (by omega) (by omega), hE]
  simp only [Option.bind_some]
  generalize flo (x * (p + r)) 1000000 = A at *
  generalize flo (x * (q + r)) 1000000 = B at *
  rw [w64 (x := x - A - (x - B)) (by omega) (by omega), if_pos (by omega), w64 (by omega) (by omega), decide_eq_true (by omega)]
theorem ClockApart : drumlinelaw8_ClockApart.Pure := by
  intro a0 a1 a2 a3 a4 w0 w1 w2 w3 w4
  obtain ⟨q, s, cyc, dr, ag, lo, li, sp, hq1, hq4, hs3, c1, c2, d1, d2, g1, g2, l1, l2, hm⟩ := made_eq a0
  refine ⟨101, ?_⟩
  unfold drumlinelaw8_ClockApart.f
  rw [alive_true]
  simp only [Option.bind_some, if_true]
  rw [hm]
  simp only [Option.bind_some]
  rw [w64 (x := -dr) (by omega) (by omega), w64 (x := -300000) (by omega) (by omega)]
  by_cases e1 : a1 < 0
  · rw [if_pos e1]; exact j_true 100 _ _ _ _ _ _ _ _ _ _ _ _ _ _ _ _ _
  rw [if_neg e1]
  by_cases e2 : a1 > cyc
  · rw [if_pos e2]; exact j_true 100 _ _ _ _ _ _ _ _ _ _ _ _ _ _ _ _ _
  rw [if_neg e2]
  by_cases e3 : a2 < -dr
  · rw [if_pos e3]; exact j_true 100 _ _ _ _ _ _ _ _ _ _ _ _ _ _ _ _ _
  rw [if_neg e3]
  by_cases e4 : a2 > dr
  · rw [if_pos e4]; exact j_true 100 _ _ _ _ _ _ _ _ _ _ _ _ _ _ _ _ _
  rw [if_neg e4]
  by_cases e5 : a3 < -dr
  · rw [if_pos e5]; exact j_true 100 _ _ _ _ _ _ _ _ _ _ _ _ _ _ _ _ _
  rw [if_neg e5]
  by_cases e6 : a3 > dr
  · rw [if_pos e6]; exact j_true 100 _ _ _ _ _ _ _ _ _ _ _ _ _ _ _ _ _
  rw [if_neg e6]
  by_cases e7 : a4 < -300000
  · rw [if_pos e7]; exact j_true 100 _ _ _ _ _ _ _ _ _ _ _ _ _ _ _ _ _
  rw [if_neg e7]
  by_cases e8 : a4 > 300000
  · rw [decide_eq_true e8]; exact j_true 100 _ _ _ _ _ _ _ _ _ _ _ _ _ _ _ _ _
  rw [decide_eq_false e8]
  exact j_false a1 a2 a3 a4 _ _ cyc dr ag lo li sp (in_eq q s hq1 hq4 hs3 d1 d2 c1 c2 (by omega) (by omega) g1 g2 l1 l2) c1 c2 d1 d2 (by omega) (by omega) (by omega) (by omega) (by omega) (by omega) (by omega) (by omega)
end Go.Proofs.YtkhlndhleiaokaaDoor.Pure
