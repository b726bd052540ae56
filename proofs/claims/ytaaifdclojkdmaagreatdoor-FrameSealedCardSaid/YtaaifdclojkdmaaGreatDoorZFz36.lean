/- Texts of this claim, laid together by a program (wip/e/merge2.py): MFrx83. -/
import Derived.Test.YtaaifdclojkdmaaGreatDoorZFz21
import Derived.Test.YtaaifdclojkdmaaGreatDoorZFz27
import Derived.Test.YtaaifdclojkdmaaGreatDoorZFz2
import Derived.Test.YtaaifdclojkdmaaGreatDoorZFz28
import Derived.Test.YtaaifdclojkdmaaGreatDoorZFz12
import Derived.Test.YtaaifdclojkdmaaGreatDoorZFz30
import Derived.Test.YtaaifdclojkdmaaGreatDoorZFz31
namespace Go.Proofs.YtaaifdclojkdmaaGreatDoor.MFr
open Go.RowKit Go.Proofs.YtaaifdclojkdmaaGreatDoorW.PrintWords Go.Proofs.YtaaifdclojkdmaaGreatDoorW.PrintLast Go.Proofs.YtaaifdclojkdmaaGreatDoorW.PrintMore
attribute [local go_sem] mp_u32s mp_u32m mp_u8s mp_u8m max2_int min2_int max_two min_two max_three min_three max_four min_four
set_option linter.unusedVariables false
set_option linter.unusedSimpArgs false
mutual
def drumlinelaw4_FrameSealed.j0 : Nat → List Int → Bool → Option (Bool)
 | 0, _, _ => none
 | k + 1, x0, x20 => if x20 = true then ((drumlinelaw4_alive.f k).bind fun t308 => (some t308)) else ((drumlineref1_Seal.f k x0).bind fun t309 => ((frame_Decode.f t309).bind fun bt312 => ((drumlineref1_Decode.f t309).bind fun bt332 => ((frame_Why.f t309).bind fun bt352 => ((drumlineref1_Why.f t309).bind fun bt354 => ((drumlineref1_Same.f k bt312.1 bt312.2.1 bt312.2.2.1 bt312.2.2.2.1 bt312.2.2.2.2.1 bt312.2.2.2.2.2.1 bt312.2.2.2.2.2.2.1 bt312.2.2.2.2.2.2.2.1 bt312.2.2.2.2.2.2.2.2.1 bt312.2.2.2.2.2.2.2.2.2.1 bt312.2.2.2.2.2.2.2.2.2.2.1 bt312.2.2.2.2.2.2.2.2.2.2.2.1 bt312.2.2.2.2.2.2.2.2.2.2.2.2.1 bt312.2.2.2.2.2.2.2.2.2.2.2.2.2.1 bt332.1 bt332.2.1 bt332.2.2.1 bt332.2.2.2.1 bt332.2.2.2.2.1 bt332.2.2.2.2.2.1 bt332.2.2.2.2.2.2.1 bt332.2.2.2.2.2.2.2.1 bt332.2.2.2.2.2.2.2.2.1 bt332.2.2.2.2.2.2.2.2.2.1 bt332.2.2.2.2.2.2.2.2.2.2.1 bt332.2.2.2.2.2.2.2.2.2.2.2.1 bt332.2.2.2.2.2.2.2.2.2.2.2.2.1 bt332.2.2.2.2.2.2.2.2.2.2.2.2.2.1).bind fun t356 => (if t356 = true then ((drumlinelaw4_num.f bt312.2.2.2.2.2.2.2.2.2.2.2.2.2.2).bind fun t357 => (if t357 = bt332.2.2.2.2.2.2.2.2.2.2.2.2.2.2 then ((drumlinelaw4_num.f bt352.1).bind fun t358 => (if t358 = bt354.1 then (drumlinelaw4_FrameSealed.j1 k t309 bt312.2.2.2.2.2.2.2.2.2.2.2.2.2.2 (bt352.2 != bt354.2) bt312.1 bt312.2.1 bt312.2.2.1 bt312.2.2.2.1 bt312.2.2.2.2.1 bt312.2.2.2.2.2.1 bt312.2.2.2.2.2.2.1 bt312.2.2.2.2.2.2.2.1 bt312.2.2.2.2.2.2.2.2.1 bt312.2.2.2.2.2.2.2.2.2.1 bt312.2.2.2.2.2.2.2.2.2.2.1 bt312.2.2.2.2.2.2.2.2.2.2.2.1 bt312.2.2.2.2.2.2.2.2.2.2.2.2.1 bt312.2.2.2.2.2.2.2.2.2.2.2.2.2.1) else (drumlinelaw4_FrameSealed.j1 k t309 bt312.2.2.2.2.2.2.2.2.2.2.2.2.2.2 true bt312.1 bt312.2.1 bt312.2.2.1 bt312.2.2.2.1 bt312.2.2.2.2.1 bt312.2.2.2.2.2.1 bt312.2.2.2.2.2.2.1 bt312.2.2.2.2.2.2.2.1 bt312.2.2.2.2.2.2.2.2.1 bt312.2.2.2.2.2.2.2.2.2.1 bt312.2.2.2.2.2.2.2.2.2.2.1 bt312.2.2.2.2.2.2.2.2.2.2.2.1 bt312.2.2.2.2.2.2.2.2.2.2.2.2.1 bt312.2.2.2.2.2.2.2.2.2.2.2.2.2.1))) else (drumlinelaw4_FrameSealed.j1 k t309 bt312.2.2.2.2.2.2.2.2.2.2.2.2.2.2 true bt312.1 bt312.2.1 bt312.2.2.1 bt312.2.2.2.1 bt312.2.2.2.2.1 bt312.2.2.2.2.2.1 bt312.2.2.2.2.2.2.1 bt312.2.2.2.2.2.2.2.1 bt312.2.2.2.2.2.2.2.2.1 bt312.2.2.2.2.2.2.2.2.2.1 bt312.2.2.2.2.2.2.2.2.2.2.1 bt312.2.2.2.2.2.2.2.2.2.2.2.1 bt312.2.2.2.2.2.2.2.2.2.2.2.2.1 bt312.2.2.2.2.2.2.2.2.2.2.2.2.2.1))) else (drumlinelaw4_FrameSealed.j1 k t309 bt312.2.2.2.2.2.2.2.2.2.2.2.2.2.2 true bt312.1 bt312.2.1 bt312.2.2.1 bt312.2.2.2.1 bt312.2.2.2.2.1 bt312.2.2.2.2.2.1 bt312.2.2.2.2.2.2.1 bt312.2.2.2.2.2.2.2.1 bt312.2.2.2.2.2.2.2.2.1 bt312.2.2.2.2.2.2.2.2.2.1 bt312.2.2.2.2.2.2.2.2.2.2.1 bt312.2.2.2.2.2.2.2.2.2.2.2.1 bt312.2.2.2.2.2.2.2.2.2.2.2.2.1 bt312.2.2.2.2.2.2.2.2.2.2.2.2.2.1))))))))
def drumlinelaw4_FrameSealed.j1 : Nat → List Int → Int → Bool → Int → Int → Int → Int → Int → Int → Bool → Int → Int → List Int → Int → Int → Int → List Int → Option (Bool)
 | 0, _, _, _, _, _, _, _, _, _, _, _, _, _, _, _, _, _ => none
 | k + 1, x3, x5, x64, x332000, x332001, x332002, x332003, x332004, x332005, x332006, x332007, x332008, x332009, x332010, x332011, x332012, x332013 => if x64 = true then (none) else (if x5 = 0 then ((frame_Encode.f k x332000 x332001 x332002 x332003 x332004 x332005 x332006 x332007 x332008 x332009 x332010 x332011 x332012 x332013).bind fun bt359 => (if bt359.2 = 0 then (some ((strOfNums bt359.1).toList == (strOfNums x3).toList)) else (none))) else (some true))
end
def drumlinelaw4_FrameSealed.f (k : Nat) (l0 : List Int) : Option (Bool) := (drumlinelaw4_alive.f k).bind fun t307 => (if t307 = true then (drumlinelaw4_FrameSealed.j0 k l0 (decide ((l0.length : Int) > 200))) else (drumlinelaw4_FrameSealed.j0 k l0 true))
theorem drumlinelaw4_FrameSealed.mono_l : ∀ k, (∀ y0 y1, LeO (drumlinelaw4_FrameSealed.j0 k y0 y1) (drumlinelaw4_FrameSealed.j0 (k + 1) y0 y1)) ∧ (∀ y0 y1 y2 y3 y4 y5 y6 y7 y8 y9 y10 y11 y12 y13 y14 y15 y16, LeO (drumlinelaw4_FrameSealed.j1 k y0 y1 y2 y3 y4 y5 y6 y7 y8 y9 y10 y11 y12 y13 y14 y15 y16) (drumlinelaw4_FrameSealed.j1 (k + 1) y0 y1 y2 y3 y4 y5 y6 y7 y8 y9 y10 y11 y12 y13 y14 y15 y16))
 | 0 => ⟨fun _ _ r h => by simp [drumlinelaw4_FrameSealed.j0] at h, fun _ _ _ _ _ _ _ _ _ _ _ _ _ _ _ _ _ r h => by simp [drumlinelaw4_FrameSealed.j1] at h⟩
 | k + 1 => by
  obtain ⟨ih0, ih1⟩ := drumlinelaw4_FrameSealed.mono_l k
  refine ⟨?_, ?_⟩
  ·intro y0 y1
   unfold drumlinelaw4_FrameSealed.j0
   repeat' first
   | (with_reducible exact ih0 _ _)
   | (with_reducible exact ih1 _ _ _ _ _ _ _ _ _ _ _ _ _ _ _ _ _)
   | (with_reducible exact drumlinelaw4_alive.mono _)
   | (with_reducible exact drumlineref1_Same.mono _ _ _ _ _ _ _ _ _ _ _ _ _ _ _ _ _ _ _ _ _ _ _ _ _ _ _ _ _)
   | (with_reducible exact drumlineref1_Seal.mono _ _)
   | (with_reducible exact frame_Encode.mono _ _ _ _ _ _ _ _ _ _ _ _ _ _ _)
   | (with_reducible exact LeO.refl _)
   | (with_reducible exact LeO.none _)
   | (with_reducible refine LeO.ite ?_ ?_)
   | (with_reducible refine LeO.bind ?_ (fun _ => ?_))
   | exact ih0 _ _
   | exact ih1 _ _ _ _ _ _ _ _ _ _ _ _ _ _ _ _ _
   | exact drumlinelaw4_alive.mono _
   | exact drumlineref1_Same.mono _ _ _ _ _ _ _ _ _ _ _ _ _ _ _ _ _ _ _ _ _ _ _ _ _ _ _ _ _
   | exact drumlineref1_Seal.mono _ _
   | exact frame_Encode.mono _ _ _ _ _ _ _ _ _ _ _ _ _ _ _
   | exact LeO.none _
   | refine LeO.ite ?_ ?_
   | refine LeO.bind ?_ (fun _ => ?_)
  ·intro y0 y1 y2 y3 y4 y5 y6 y7 y8 y9 y10 y11 y12 y13 y14 y15 y16
   unfold drumlinelaw4_FrameSealed.j1
   repeat' first
   | (with_reducible exact ih0 _ _)
   | (with_reducible exact ih1 _ _ _ _ _ _ _ _ _ _ _ _ _ _ _ _ _)
   | (with_reducible exact drumlinelaw4_alive.mono _)
   | (with_reducible exact drumlineref1_Same.mono _ _ _ _ _ _ _ _ _ _ _ _ _ _ _ _ _ _ _ _ _ _ _ _ _ _ _ _ _)
   | (with_reducible exact drumlineref1_Seal.mono _ _)
   | (with_reducible exact frame_Encode.mono _ _ _ _ _ _ _ _ _ _ _ _ _ _ _)
   | (with_reducible exact LeO.refl _)
   | (with_reducible exact LeO.none _)
   | (with_reducible refine LeO.ite ?_ ?_)
   | (with_reducible refine LeO.bind ?_ (fun _ => ?_))
   | exact ih0 _ _
   | exact ih1 _ _ _ _ _ _ _ _ _ _ _ _ _ _ _ _ _
   | exact drumlinelaw4_alive.mono _
   | exact drumlineref1_Same.mono _ _ _ _ _ _ _ _ _ _ _ _ _ _ _ _ _ _ _ _ _ _ _ _ _ _ _ _ _
   | exact drumlineref1_Seal.mono _ _
   | exact frame_Encode.mono _ _ _ _ _ _ _ _ _ _ _ _ _ _ _
   | exact LeO.none _
   | refine LeO.ite ?_ ?_
   | refine LeO.bind ?_ (fun _ => ?_)
theorem drumlinelaw4_FrameSealed.mono : ∀ a0 k, LeO (drumlinelaw4_FrameSealed.f k a0) (drumlinelaw4_FrameSealed.f (k + 1) a0) := by
 intro a0 k
 obtain ⟨ih0, ih1⟩ := drumlinelaw4_FrameSealed.mono_l k
 unfold drumlinelaw4_FrameSealed.f
 repeat' first
   | (with_reducible exact ih0 _ _)
   | (with_reducible exact ih1 _ _ _ _ _ _ _ _ _ _ _ _ _ _ _ _ _)
   | (with_reducible exact drumlinelaw4_alive.mono _)
   | (with_reducible exact drumlineref1_Same.mono _ _ _ _ _ _ _ _ _ _ _ _ _ _ _ _ _ _ _ _ _ _ _ _ _ _ _ _ _)
   | (with_reducible exact drumlineref1_Seal.mono _ _)
   | (with_reducible exact frame_Encode.mono _ _ _ _ _ _ _ _ _ _ _ _ _ _ _)
   | (with_reducible exact LeO.refl _)
   | (with_reducible exact LeO.none _)
   | (with_reducible refine LeO.ite ?_ ?_)
   | (with_reducible refine LeO.bind ?_ (fun _ => ?_))
   | exact ih0 _ _
   | exact ih1 _ _ _ _ _ _ _ _ _ _ _ _ _ _ _ _ _
   | exact drumlinelaw4_alive.mono _
   | exact drumlineref1_Same.mono _ _ _ _ _ _ _ _ _ _ _ _ _ _ _ _ _ _ _ _ _ _ _ _ _ _ _ _ _
   | exact drumlineref1_Seal.mono _ _
   | exact frame_Encode.mono _ _ _ _ _ _ _ _ _ _ _ _ _ _ _
   | exact LeO.none _
   | refine LeO.ite ?_ ?_
   | refine LeO.bind ?_ (fun _ => ?_)
set_option maxHeartbeats 8000000 in
set_option maxRecDepth 100000 in
theorem drumlinelaw4_FrameSealed.calls (k : Nat) (A0 : Option Addr) (c0 : Nat) (l0 : List Int) (r : Bool) (w : World) (hr0 : Kd.C (Kd.int .u8) w A0 l0.length l0) (hc0 : l0.length ≤ c0) (h : drumlinelaw4_FrameSealed.f k l0 = some r) (hG : Gv w := by first | exact HG.out | exact HG.out.below (by repeat (first | exact HB.out | apply below_alloc | apply pw_below_drewN | apply below_drew1))) :
  Calls Tryz.prog 4 #[.slice A0 l0.length c0] w fun e w' => e = .returned (.bool r) ∧ Below w.heap.size w w' := by
 have HG := Aside0.mk hG
 clear hG
 have hu26 := Tryz.underlying26
 have HR0 := Aside0.mk hr0
 have HC0 := Aside0.mk hc0
 clear hr0 hc0
 have HB := Aside0.mk (Below.refl w.heap.size w)
 have H : ((drumlinelaw4_alive.f k).bind fun t307 => (if t307 = true then (drumlinelaw4_FrameSealed.j0 k l0 (decide ((l0.length : Int) > 200))) else (drumlinelaw4_FrameSealed.j0 k l0 true))) = some r := h
 clear h
 have HC2 := Aside0.mk H
 clear H
 go_enter Tryz.func4, Tryz.ntmps4
 go_upto_region 1 with (fail)
 go_cut [20] (fun v20 wc => ∃ (kq : Nat) (x20_1 : Bool), v20 = .bool x20_1 ∧ Aside0 (drumlinelaw4_FrameSealed.j0 kq l0 x20_1 = some r) ∧ Aside0 (kq ≤ k) ∧ Aside0 (Below w.heap.size w wc))
 case first =>
  have H := HC2.out
  clear HC2
  replace H := Option.bind_eq_some_iff.mp H
  obtain ⟨t307, A30, H⟩ := H
  replace H : (if t307 = true then (drumlinelaw4_FrameSealed.j0 k l0 (decide ((l0.length : Int) > 200))) else (drumlinelaw4_FrameSealed.j0 k l0 true)) = some r := H
  have A3 := Aside0.mk A30
  clear A30
  by_cases c4 : t307 = true
  ·subst c4
   have H1 : (drumlinelaw4_FrameSealed.j0 k l0 (decide ((l0.length : Int) > 200))) = some r := by rw [if_pos rfl] at H; exact H
   clear H
   have H := H1
   clear H1
   have H' := Aside0.mk H
   clear H
   go_wp2_with (first | ((with_reducible refine gate_callee (f := 5) rfl ?_); refine goesL_ (some 14) rfl rfl Tryz.func5 (by kernel_rfl) rfl #[] rfl (by (try simp only [List.map_toArray, List.map_cons, List.map_nil]); first | done | rfl | (simp only [List.length_drop, List.length_take]; rfl)) ?_; (with_reducible refine (drumlinelaw4_alive.calls k  true _ A3.out (HG.out.below (by repeat (first | (with_reducible first | exact HB.out | apply below_alloc | apply pw_below_drewN | apply below_drew1) | exact HB.out)))).mono ?_); rintro e w5 ⟨rfl, hb⟩; refine ⟨_, rfl, ?_⟩; have n0_ := Aside0.mk (below_step (by repeat (first | (with_reducible first | exact HB.out | apply below_alloc | apply pw_below_drewN | apply below_drew1) | exact HB.out)) hb); clear HB; have HB := n0_; clear n0_; (try clear hb); (try clear hb2); (try clear hk); (try clear hi)))
   go_meet
   case rel => exact ⟨_, (decide ((l0.length : Int) > 200)), (by first | rfl | (simp; done) | (simp [*]; done)), H', ⟨by first | omega | exact Nat.le_refl _⟩, ⟨by repeat (first | (with_reducible first | exact HB.out | apply below_alloc | apply pw_below_drewN | apply below_drew1) | exact HB.out)⟩⟩
  ·replace c4 := Bool.eq_false_iff.mpr c4
   subst c4
   have H1 : (drumlinelaw4_FrameSealed.j0 k l0 true) = some r := by rw [if_neg (show ¬ (false = true) by decide)] at H; exact H
   clear H
   have H := H1
   clear H1
   have H' := Aside0.mk H
   clear H
   go_wp2_with (first | ((with_reducible refine gate_callee (f := 5) rfl ?_); refine goesL_ (some 14) rfl rfl Tryz.func5 (by kernel_rfl) rfl #[] rfl (by (try simp only [List.map_toArray, List.map_cons, List.map_nil]); first | done | rfl | (simp only [List.length_drop, List.length_take]; rfl)) ?_; (with_reducible refine (drumlinelaw4_alive.calls k  false _ A3.out (HG.out.below (by repeat (first | (with_reducible first | exact HB.out | apply below_alloc | apply pw_below_drewN | apply below_drew1) | exact HB.out)))).mono ?_); rintro e w6 ⟨rfl, hb⟩; refine ⟨_, rfl, ?_⟩; have n0_ := Aside0.mk (below_step (by repeat (first | (with_reducible first | exact HB.out | apply below_alloc | apply pw_below_drewN | apply below_drew1) | exact HB.out)) hb); clear HB; have HB := n0_; clear n0_; (try clear hb); (try clear hb2); (try clear hk); (try clear hi)))
   go_meet
   case rel => exact ⟨_, (true), (by first | rfl | (simp; done) | (simp [*]; done)), H', ⟨by first | omega | exact Nat.le_refl _⟩, ⟨by repeat (first | (with_reducible first | exact HB.out | apply below_alloc | apply pw_below_drewN | apply below_drew1) | exact HB.out)⟩⟩
 case rest =>
  clear HC2
  try clear p2
  try clear c4
  try clear c5
  obtain ⟨kq, x20_1, rfl, HA, HJ1, HB⟩ := hcut
  cases kq with
  | zero => exact absurd HA.out (by simp [drumlinelaw4_FrameSealed.j0])
  | succ kj1 =>
   have H := HA.out
   clear HA
   simp only [drumlinelaw4_FrameSealed.j0] at H
   by_cases c7 : x20_1 = true
   ·subst c7
    have H1 : ((drumlinelaw4_alive.f kj1).bind fun t308 => (some t308)) = some r := by rw [if_pos rfl] at H; exact H
    clear H
    have H := H1
    clear H1
    replace H := Option.bind_eq_some_iff.mp H
    obtain ⟨t308, A80, H⟩ := H
    replace H : (some t308) = some r := H
    have A8 := Aside0.mk A80
    clear A80
    obtain rfl := Option.some.inj H
    go_wp2_with (first | ((with_reducible refine gate_callee (f := 5) rfl ?_); refine goesL_ (some 21) rfl rfl Tryz.func5 (by kernel_rfl) rfl #[] rfl (by (try simp only [List.map_toArray, List.map_cons, List.map_nil]); first | done | rfl | (simp only [List.length_drop, List.length_take]; rfl)) ?_; (with_reducible refine (drumlinelaw4_alive.calls kj1  t308 _ A8.out (HG.out.below (by repeat (first | (with_reducible first | exact HB.out | apply below_alloc | apply pw_below_drewN | apply below_drew1) | exact HB.out)))).mono ?_); rintro e w9 ⟨rfl, hb⟩; refine ⟨_, rfl, ?_⟩; have n0_ := Aside0.mk (below_step (by repeat (first | (with_reducible first | exact HB.out | apply below_alloc | apply pw_below_drewN | apply below_drew1) | exact HB.out)) hb); clear HB; have HB := n0_; clear n0_; (try clear hb); (try clear hb2); (try clear hk); (try clear hi)))
    go_ret
    exact ⟨by first | rfl | (simp [errW_none, errW_some] <;> rfl) | (simp [*, errW_none, errW_some] <;> rfl), by repeat (first | (with_reducible first | exact HB.out | apply below_alloc | apply pw_below_drewN | apply below_drew1) | exact HB.out)⟩
   ·replace c7 := Bool.eq_false_iff.mpr c7
    subst c7
    have H1 : ((drumlineref1_Seal.f kj1 l0).bind fun t309 => ((frame_Decode.f t309).bind fun bt312 => ((drumlineref1_Decode.f t309).bind fun bt332 => ((frame_Why.f t309).bind fun bt352 => ((drumlineref1_Why.f t309).bind fun bt354 => ((drumlineref1_Same.f kj1 bt312.1 bt312.2.1 bt312.2.2.1 bt312.2.2.2.1 bt312.2.2.2.2.1 bt312.2.2.2.2.2.1 bt312.2.2.2.2.2.2.1 bt312.2.2.2.2.2.2.2.1 bt312.2.2.2.2.2.2.2.2.1 bt312.2.2.2.2.2.2.2.2.2.1 bt312.2.2.2.2.2.2.2.2.2.2.1 bt312.2.2.2.2.2.2.2.2.2.2.2.1 bt312.2.2.2.2.2.2.2.2.2.2.2.2.1 bt312.2.2.2.2.2.2.2.2.2.2.2.2.2.1 bt332.1 bt332.2.1 bt332.2.2.1 bt332.2.2.2.1 bt332.2.2.2.2.1 bt332.2.2.2.2.2.1 bt332.2.2.2.2.2.2.1 bt332.2.2.2.2.2.2.2.1 bt332.2.2.2.2.2.2.2.2.1 bt332.2.2.2.2.2.2.2.2.2.1 bt332.2.2.2.2.2.2.2.2.2.2.1 bt332.2.2.2.2.2.2.2.2.2.2.2.1 bt332.2.2.2.2.2.2.2.2.2.2.2.2.1 bt332.2.2.2.2.2.2.2.2.2.2.2.2.2.1).bind fun t356 => (if t356 = true then ((drumlinelaw4_num.f bt312.2.2.2.2.2.2.2.2.2.2.2.2.2.2).bind fun t357 => (if t357 = bt332.2.2.2.2.2.2.2.2.2.2.2.2.2.2 then ((drumlinelaw4_num.f bt352.1).bind fun t358 => (if t358 = bt354.1 then (drumlinelaw4_FrameSealed.j1 kj1 t309 bt312.2.2.2.2.2.2.2.2.2.2.2.2.2.2 (bt352.2 != bt354.2) bt312.1 bt312.2.1 bt312.2.2.1 bt312.2.2.2.1 bt312.2.2.2.2.1 bt312.2.2.2.2.2.1 bt312.2.2.2.2.2.2.1 bt312.2.2.2.2.2.2.2.1 bt312.2.2.2.2.2.2.2.2.1 bt312.2.2.2.2.2.2.2.2.2.1 bt312.2.2.2.2.2.2.2.2.2.2.1 bt312.2.2.2.2.2.2.2.2.2.2.2.1 bt312.2.2.2.2.2.2.2.2.2.2.2.2.1 bt312.2.2.2.2.2.2.2.2.2.2.2.2.2.1) else (drumlinelaw4_FrameSealed.j1 kj1 t309 bt312.2.2.2.2.2.2.2.2.2.2.2.2.2.2 true bt312.1 bt312.2.1 bt312.2.2.1 bt312.2.2.2.1 bt312.2.2.2.2.1 bt312.2.2.2.2.2.1 bt312.2.2.2.2.2.2.1 bt312.2.2.2.2.2.2.2.1 bt312.2.2.2.2.2.2.2.2.1 bt312.2.2.2.2.2.2.2.2.2.1 bt312.2.2.2.2.2.2.2.2.2.2.1 bt312.2.2.2.2.2.2.2.2.2.2.2.1 bt312.2.2.2.2.2.2.2.2.2.2.2.2.1 bt312.2.2.2.2.2.2.2.2.2.2.2.2.2.1))) else (drumlinelaw4_FrameSealed.j1 kj1 t309 bt312.2.2.2.2.2.2.2.2.2.2.2.2.2.2 true bt312.1 bt312.2.1 bt312.2.2.1 bt312.2.2.2.1 bt312.2.2.2.2.1 bt312.2.2.2.2.2.1 bt312.2.2.2.2.2.2.1 bt312.2.2.2.2.2.2.2.1 bt312.2.2.2.2.2.2.2.2.1 bt312.2.2.2.2.2.2.2.2.2.1 bt312.2.2.2.2.2.2.2.2.2.2.1 bt312.2.2.2.2.2.2.2.2.2.2.2.1 bt312.2.2.2.2.2.2.2.2.2.2.2.2.1 bt312.2.2.2.2.2.2.2.2.2.2.2.2.2.1))) else (drumlinelaw4_FrameSealed.j1 kj1 t309 bt312.2.2.2.2.2.2.2.2.2.2.2.2.2.2 true bt312.1 bt312.2.1 bt312.2.2.1 bt312.2.2.2.1 bt312.2.2.2.2.1 bt312.2.2.2.2.2.1 bt312.2.2.2.2.2.2.1 bt312.2.2.2.2.2.2.2.1 bt312.2.2.2.2.2.2.2.2.1 bt312.2.2.2.2.2.2.2.2.2.1 bt312.2.2.2.2.2.2.2.2.2.2.1 bt312.2.2.2.2.2.2.2.2.2.2.2.1 bt312.2.2.2.2.2.2.2.2.2.2.2.2.1 bt312.2.2.2.2.2.2.2.2.2.2.2.2.2.1)))))))) = some r := by rw [if_neg (show ¬ (false = true) by decide)] at H; exact H
    clear H
    have H := H1
    clear H1
    replace H := Option.bind_eq_some_iff.mp H
    obtain ⟨t309, A100, H⟩ := H
    replace H : ((frame_Decode.f t309).bind fun bt312 => ((drumlineref1_Decode.f t309).bind fun bt332 => ((frame_Why.f t309).bind fun bt352 => ((drumlineref1_Why.f t309).bind fun bt354 => ((drumlineref1_Same.f kj1 bt312.1 bt312.2.1 bt312.2.2.1 bt312.2.2.2.1 bt312.2.2.2.2.1 bt312.2.2.2.2.2.1 bt312.2.2.2.2.2.2.1 bt312.2.2.2.2.2.2.2.1 bt312.2.2.2.2.2.2.2.2.1 bt312.2.2.2.2.2.2.2.2.2.1 bt312.2.2.2.2.2.2.2.2.2.2.1 bt312.2.2.2.2.2.2.2.2.2.2.2.1 bt312.2.2.2.2.2.2.2.2.2.2.2.2.1 bt312.2.2.2.2.2.2.2.2.2.2.2.2.2.1 bt332.1 bt332.2.1 bt332.2.2.1 bt332.2.2.2.1 bt332.2.2.2.2.1 bt332.2.2.2.2.2.1 bt332.2.2.2.2.2.2.1 bt332.2.2.2.2.2.2.2.1 bt332.2.2.2.2.2.2.2.2.1 bt332.2.2.2.2.2.2.2.2.2.1 bt332.2.2.2.2.2.2.2.2.2.2.1 bt332.2.2.2.2.2.2.2.2.2.2.2.1 bt332.2.2.2.2.2.2.2.2.2.2.2.2.1 bt332.2.2.2.2.2.2.2.2.2.2.2.2.2.1).bind fun t356 => (if t356 = true then ((drumlinelaw4_num.f bt312.2.2.2.2.2.2.2.2.2.2.2.2.2.2).bind fun t357 => (if t357 = bt332.2.2.2.2.2.2.2.2.2.2.2.2.2.2 then ((drumlinelaw4_num.f bt352.1).bind fun t358 => (if t358 = bt354.1 then (drumlinelaw4_FrameSealed.j1 kj1 t309 bt312.2.2.2.2.2.2.2.2.2.2.2.2.2.2 (bt352.2 != bt354.2) bt312.1 bt312.2.1 bt312.2.2.1 bt312.2.2.2.1 bt312.2.2.2.2.1 bt312.2.2.2.2.2.1 bt312.2.2.2.2.2.2.1 bt312.2.2.2.2.2.2.2.1 bt312.2.2.2.2.2.2.2.2.1 bt312.2.2.2.2.2.2.2.2.2.1 bt312.2.2.2.2.2.2.2.2.2.2.1 bt312.2.2.2.2.2.2.2.2.2.2.2.1 bt312.2.2.2.2.2.2.2.2.2.2.2.2.1 bt312.2.2.2.2.2.2.2.2.2.2.2.2.2.1) else (drumlinelaw4_FrameSealed.j1 kj1 t309 bt312.2.2.2.2.2.2.2.2.2.2.2.2.2.2 true bt312.1 bt312.2.1 bt312.2.2.1 bt312.2.2.2.1 bt312.2.2.2.2.1 bt312.2.2.2.2.2.1 bt312.2.2.2.2.2.2.1 bt312.2.2.2.2.2.2.2.1 bt312.2.2.2.2.2.2.2.2.1 bt312.2.2.2.2.2.2.2.2.2.1 bt312.2.2.2.2.2.2.2.2.2.2.1 bt312.2.2.2.2.2.2.2.2.2.2.2.1 bt312.2.2.2.2.2.2.2.2.2.2.2.2.1 bt312.2.2.2.2.2.2.2.2.2.2.2.2.2.1))) else (drumlinelaw4_FrameSealed.j1 kj1 t309 bt312.2.2.2.2.2.2.2.2.2.2.2.2.2.2 true bt312.1 bt312.2.1 bt312.2.2.1 bt312.2.2.2.1 bt312.2.2.2.2.1 bt312.2.2.2.2.2.1 bt312.2.2.2.2.2.2.1 bt312.2.2.2.2.2.2.2.1 bt312.2.2.2.2.2.2.2.2.1 bt312.2.2.2.2.2.2.2.2.2.1 bt312.2.2.2.2.2.2.2.2.2.2.1 bt312.2.2.2.2.2.2.2.2.2.2.2.1 bt312.2.2.2.2.2.2.2.2.2.2.2.2.1 bt312.2.2.2.2.2.2.2.2.2.2.2.2.2.1))) else (drumlinelaw4_FrameSealed.j1 kj1 t309 bt312.2.2.2.2.2.2.2.2.2.2.2.2.2.2 true bt312.1 bt312.2.1 bt312.2.2.1 bt312.2.2.2.1 bt312.2.2.2.2.1 bt312.2.2.2.2.2.1 bt312.2.2.2.2.2.2.1 bt312.2.2.2.2.2.2.2.1 bt312.2.2.2.2.2.2.2.2.1 bt312.2.2.2.2.2.2.2.2.2.1 bt312.2.2.2.2.2.2.2.2.2.2.1 bt312.2.2.2.2.2.2.2.2.2.2.2.1 bt312.2.2.2.2.2.2.2.2.2.2.2.2.1 bt312.2.2.2.2.2.2.2.2.2.2.2.2.2.1))))))) = some r := H
    have A10 := Aside0.mk A100
    clear A100
    replace H := Option.bind_eq_some_iff.mp H
    obtain ⟨⟨t312, t313, t314, t315, t316, t317, t318, t319, t320, t321, t324, t325, t326, t327, t330⟩, A110, H⟩ := H
    replace H : ((drumlineref1_Decode.f t309).bind fun bt332 => ((frame_Why.f t309).bind fun bt352 => ((drumlineref1_Why.f t309).bind fun bt354 => ((drumlineref1_Same.f kj1 t312 t313 t314 t315 t316 t317 t318 t319 t320 t321 t324 t325 t326 t327 bt332.1 bt332.2.1 bt332.2.2.1 bt332.2.2.2.1 bt332.2.2.2.2.1 bt332.2.2.2.2.2.1 bt332.2.2.2.2.2.2.1 bt332.2.2.2.2.2.2.2.1 bt332.2.2.2.2.2.2.2.2.1 bt332.2.2.2.2.2.2.2.2.2.1 bt332.2.2.2.2.2.2.2.2.2.2.1 bt332.2.2.2.2.2.2.2.2.2.2.2.1 bt332.2.2.2.2.2.2.2.2.2.2.2.2.1 bt332.2.2.2.2.2.2.2.2.2.2.2.2.2.1).bind fun t356 => (if t356 = true then ((drumlinelaw4_num.f t330).bind fun t357 => (if t357 = bt332.2.2.2.2.2.2.2.2.2.2.2.2.2.2 then ((drumlinelaw4_num.f bt352.1).bind fun t358 => (if t358 = bt354.1 then (drumlinelaw4_FrameSealed.j1 kj1 t309 t330 (bt352.2 != bt354.2) t312 t313 t314 t315 t316 t317 t318 t319 t320 t321 t324 t325 t326 t327) else (drumlinelaw4_FrameSealed.j1 kj1 t309 t330 true t312 t313 t314 t315 t316 t317 t318 t319 t320 t321 t324 t325 t326 t327))) else (drumlinelaw4_FrameSealed.j1 kj1 t309 t330 true t312 t313 t314 t315 t316 t317 t318 t319 t320 t321 t324 t325 t326 t327))) else (drumlinelaw4_FrameSealed.j1 kj1 t309 t330 true t312 t313 t314 t315 t316 t317 t318 t319 t320 t321 t324 t325 t326 t327)))))) = some r := H
    have A11 := Aside0.mk A110
    clear A110
    replace H := Option.bind_eq_some_iff.mp H
    obtain ⟨⟨t332, t333, t334, t335, t336, t337, t338, t339, t340, t341, t344, t345, t346, t347, t350⟩, A120, H⟩ := H
    replace H : ((frame_Why.f t309).bind fun bt352 => ((drumlineref1_Why.f t309).bind fun bt354 => ((drumlineref1_Same.f kj1 t312 t313 t314 t315 t316 t317 t318 t319 t320 t321 t324 t325 t326 t327 t332 t333 t334 t335 t336 t337 t338 t339 t340 t341 t344 t345 t346 t347).bind fun t356 => (if t356 = true then ((drumlinelaw4_num.f t330).bind fun t357 => (if t357 = t350 then ((drumlinelaw4_num.f bt352.1).bind fun t358 => (if t358 = bt354.1 then (drumlinelaw4_FrameSealed.j1 kj1 t309 t330 (bt352.2 != bt354.2) t312 t313 t314 t315 t316 t317 t318 t319 t320 t321 t324 t325 t326 t327) else (drumlinelaw4_FrameSealed.j1 kj1 t309 t330 true t312 t313 t314 t315 t316 t317 t318 t319 t320 t321 t324 t325 t326 t327))) else (drumlinelaw4_FrameSealed.j1 kj1 t309 t330 true t312 t313 t314 t315 t316 t317 t318 t319 t320 t321 t324 t325 t326 t327))) else (drumlinelaw4_FrameSealed.j1 kj1 t309 t330 true t312 t313 t314 t315 t316 t317 t318 t319 t320 t321 t324 t325 t326 t327))))) = some r := H
    have A12 := Aside0.mk A120
    clear A120
    replace H := Option.bind_eq_some_iff.mp H
    obtain ⟨⟨t352, t353⟩, A130, H⟩ := H
    replace H : ((drumlineref1_Why.f t309).bind fun bt354 => ((drumlineref1_Same.f kj1 t312 t313 t314 t315 t316 t317 t318 t319 t320 t321 t324 t325 t326 t327 t332 t333 t334 t335 t336 t337 t338 t339 t340 t341 t344 t345 t346 t347).bind fun t356 => (if t356 = true then ((drumlinelaw4_num.f t330).bind fun t357 => (if t357 = t350 then ((drumlinelaw4_num.f t352).bind fun t358 => (if t358 = bt354.1 then (drumlinelaw4_FrameSealed.j1 kj1 t309 t330 (t353 != bt354.2) t312 t313 t314 t315 t316 t317 t318 t319 t320 t321 t324 t325 t326 t327) else (drumlinelaw4_FrameSealed.j1 kj1 t309 t330 true t312 t313 t314 t315 t316 t317 t318 t319 t320 t321 t324 t325 t326 t327))) else (drumlinelaw4_FrameSealed.j1 kj1 t309 t330 true t312 t313 t314 t315 t316 t317 t318 t319 t320 t321 t324 t325 t326 t327))) else (drumlinelaw4_FrameSealed.j1 kj1 t309 t330 true t312 t313 t314 t315 t316 t317 t318 t319 t320 t321 t324 t325 t326 t327)))) = some r := H
    have A13 := Aside0.mk A130
    clear A130
    replace H := Option.bind_eq_some_iff.mp H
    obtain ⟨⟨t354, t355⟩, A140, H⟩ := H
    replace H : ((drumlineref1_Same.f kj1 t312 t313 t314 t315 t316 t317 t318 t319 t320 t321 t324 t325 t326 t327 t332 t333 t334 t335 t336 t337 t338 t339 t340 t341 t344 t345 t346 t347).bind fun t356 => (if t356 = true then ((drumlinelaw4_num.f t330).bind fun t357 => (if t357 = t350 then ((drumlinelaw4_num.f t352).bind fun t358 => (if t358 = t354 then (drumlinelaw4_FrameSealed.j1 kj1 t309 t330 (t353 != t355) t312 t313 t314 t315 t316 t317 t318 t319 t320 t321 t324 t325 t326 t327) else (drumlinelaw4_FrameSealed.j1 kj1 t309 t330 true t312 t313 t314 t315 t316 t317 t318 t319 t320 t321 t324 t325 t326 t327))) else (drumlinelaw4_FrameSealed.j1 kj1 t309 t330 true t312 t313 t314 t315 t316 t317 t318 t319 t320 t321 t324 t325 t326 t327))) else (drumlinelaw4_FrameSealed.j1 kj1 t309 t330 true t312 t313 t314 t315 t316 t317 t318 t319 t320 t321 t324 t325 t326 t327))) = some r := H
    have A14 := Aside0.mk A140
    clear A140
    have HC15 := Aside0.mk H
    clear H
    go_upto_region 8 with (first | ((with_reducible refine gate_callee (f := 12) rfl ?_); refine goesL_ (some 23) rfl rfl Tryz.func12 (by kernel_rfl) rfl #[.slice A0 l0.length c0] rfl (by (try simp only [List.map_toArray, List.map_cons, List.map_nil]); first | done | rfl | (simp only [List.length_drop, List.length_take]; rfl)) ?_; (with_reducible refine (drumlineref1_Seal.calls kj1 _ _ l0 t309 _ ?side1 ?side2 A10.out).mono ?_); (case side1 => repeat (first | exact (Kd.C_below HR0.out HB.out) | (with_reducible refine Kd.C_alloc ?_ _) | (with_reducible refine Kd.C_drewN ?_ _) | (with_reducible refine Kd.C_drew ?_))); (case side2 => exact HC0.out); rintro e w16 ⟨v310, rfl, ho0, hb⟩; refine ⟨_, rfl, ?_⟩; have n0_ := Aside0.mk (Kd.R_lower ho0 (below_size (by repeat (first | (with_reducible first | exact HB.out | apply below_alloc | apply pw_below_drewN | apply below_drew1) | exact HB.out)))); have n1_ := Aside0.mk (below_step (by repeat (first | (with_reducible first | exact HB.out | apply below_alloc | apply pw_below_drewN | apply below_drew1) | exact HB.out)) hb); clear HB; have HO311 := n0_; have HB := n1_; clear n0_ n1_; (try clear hb); (try clear hb2); (try clear hk); (try clear hi); (try clear ho0); obtain ⟨Ao17, co17, eo17⟩ := Kd.R_slice HO311.out; subst eo17) | ((with_reducible refine gate_callee (f := 6) rfl ?_); refine goesL_ (some 26) rfl rfl Tryz.func6 (by kernel_rfl) rfl #[.slice Ao17 t309.length co17] rfl (by (try simp only [List.map_toArray, List.map_cons, List.map_nil]); first | done | rfl | (simp only [List.length_drop, List.length_take]; rfl)) ?_; (with_reducible refine (frame_Decode.calls _ _ t309 t312 t313 t314 t315 t316 t317 t318 t319 t320 t321 t324 t325 t326 t327 t330 _ ?side1 ?side2 A11.out).mono ?_); (case side1 => repeat (first | exact (Kd.R_reads' HO311.out).2.2 | (with_reducible refine Kd.C_alloc ?_ _) | (with_reducible refine Kd.C_drewN ?_ _) | (with_reducible refine Kd.C_drew ?_))); (case side2 => exact (Kd.R_reads' HO311.out).2.1); rintro e w18 ⟨v322, v328, rfl, ho0, ho1, hb⟩; refine ⟨_, rfl, ?_⟩; have n0_ := Aside0.mk (Kd.R_elder' (by (with_reducible repeat (first | apply Kd.R_alloc | apply Kd.R_drewN | apply Kd.R_drew)); exact HO311.out) (Kd.R_base ho1) hb); have n1_ := Aside0.mk (Kd.R_lower ho0 (below_size (by repeat (first | (with_reducible first | exact HB.out | apply below_alloc | apply pw_below_drewN | apply below_drew1) | exact HB.out)))); have n2_ := Aside0.mk (Kd.R_lower (Kd.R_new' ho1 (Kd.R_lt (by (with_reducible repeat (first | apply Kd.R_alloc | apply Kd.R_drewN | apply Kd.R_drew)); exact HO311.out))) (below_size (by repeat (first | (with_reducible first | exact HB.out | apply below_alloc | apply pw_below_drewN | apply below_drew1) | exact HB.out)))); have n3_ := Aside0.mk (below_step (by repeat (first | (with_reducible first | exact HB.out | apply below_alloc | apply pw_below_drewN | apply below_drew1) | exact HB.out)) hb); clear HO311; clear HB; have HO311 := n0_; have HO323 := n1_; have HO329 := n2_; have HB := n3_; clear n0_ n1_ n2_ n3_; (try clear hb); (try clear hb2); (try clear hk); (try clear hi); (try clear ho0); (try clear ho1)) | ((with_reducible refine gate_dst (N := 4) rfl ?_); (try (refine gate_guard (by rfl) ?_; dsimp only)); refine box_event ?hg (N := 4) ?hd (cs := #[.int .i64 0, .int .i64 0, .int .i64 0, .int .i64 0, .int .i64 0, .int .i64 0, .bool false, .int .i64 0, .int .i64 0, .slice none 0 0, .int .i64 0, .int .i64 0, .int .i64 0, .slice none 0 0]) (t := 26) ?hr ?_; (case hd => rfl); (case hg => rfl); (case hr => first | (go_simp; done) | (go_simp; rfl)); intro gb331 hg w19 hbox hb; have n0_ := Aside0.mk (Kd.R_below (by (with_reducible repeat (first | apply Kd.R_alloc | apply Kd.R_drewN | apply Kd.R_drew)); exact HO311.out) hb); have n1_ := Aside0.mk (Kd.R_below (by (with_reducible repeat (first | apply Kd.R_alloc | apply Kd.R_drewN | apply Kd.R_drew)); exact HO323.out) hb); have n2_ := Aside0.mk (Kd.R_below (by (with_reducible repeat (first | apply Kd.R_alloc | apply Kd.R_drewN | apply Kd.R_drew)); exact HO329.out) hb); have n3_ := Aside0.mk (below_step (by repeat (first | (with_reducible first | exact HB.out | apply below_alloc | apply pw_below_drewN | apply below_drew1) | exact HB.out)) hb); have n4_ := Aside0.mk (hbox); have n5_ := Aside0.mk ((by rw [hg]; exact (below_size (by repeat (first | (with_reducible first | exact HB.out | apply below_alloc | apply pw_below_drewN | apply below_drew1) | exact HB.out))) : w.heap.size ≤ gb331)); have n6_ := Aside0.mk ((by rw [hg]; exact (below_size (by repeat (first | (with_reducible first | exact HB.out | apply below_alloc | apply pw_below_drewN | apply below_drew1) | exact HB.out))) : w.heap.size ≤ gb331)); clear HO311; clear HO323; clear HO329; clear HB; have HO311 := n0_; have HO323 := n1_; have HO329 := n2_; have HB := n3_; have BK331 := n4_; have GW331 := n5_; have GE331 := n6_; clear n0_ n1_ n2_ n3_ n4_ n5_ n6_; clear hb hbox hg; obtain ⟨hcz20_0, hcz20_1, hcz20_2, hcz20_3, hcz20_4, hcz20_5, hcz20_6, hcz20_7, hcz20_8, hcz20_9, hcz20_10, hcz20_11, hcz20_12, hcz20_13⟩ := cellsK14 BK331.out; obtain ⟨hfz20_0, hfz20_1, hfz20_2, hfz20_3, hfz20_4, hfz20_5, hfz20_6, hfz20_7, hfz20_8, hfz20_9, hfz20_10, hfz20_11, hfz20_12, hfz20_13⟩ := frozK14 BK331.out; obtain ⟨Ao21, co21, eo21⟩ := Kd.R_slice HO323.out; subst eo21; obtain ⟨Ao22, co22, eo22⟩ := Kd.R_slice HO329.out; subst eo22) | ((with_reducible refine gate_callee (f := 7) rfl ?_); refine goesL_ (some 31) rfl rfl Tryz.func7 (by kernel_rfl) rfl #[.slice Ao17 t309.length co17] rfl (by (try simp only [List.map_toArray, List.map_cons, List.map_nil]); first | done | rfl | (simp only [List.length_drop, List.length_take]; rfl)) ?_; (with_reducible refine (drumlineref1_Decode.calls _ _ t309 t332 t333 t334 t335 t336 t337 t338 t339 t340 t341 t344 t345 t346 t347 t350 _ ?side1 ?side2 A12.out).mono ?_); (case side1 => refine (Kd.R_reads' (e := 5) (base := w.heap.size) (ok := fun k_ => (True ∧ some k_ ≠ (.slice Ao22 t327.length co22 : Value).ownBlock)) (n := t309.length) (c := co17) ?_).2.2; exact (by (with_reducible repeat (first | apply Kd.R_alloc | apply Kd.R_drewN | apply Kd.R_drew)); exact (Kd.R_mono (Kd.R_far (p := ⟨gb331, 13, none⟩) (Kd.R_far (p := ⟨gb331, 12, none⟩) (Kd.R_far (p := ⟨gb331, 11, none⟩) (Kd.R_far (p := ⟨gb331, 10, none⟩) (Kd.R_far (p := ⟨gb331, 9, none⟩) (Kd.R_far (p := ⟨gb331, 8, none⟩) (Kd.R_far (p := ⟨gb331, 7, none⟩) (Kd.R_far (p := ⟨gb331, 6, none⟩) (Kd.R_far (p := ⟨gb331, 5, none⟩) (Kd.R_far (p := ⟨gb331, 4, none⟩) (Kd.R_far (p := ⟨gb331, 3, none⟩) (Kd.R_far (p := ⟨gb331, 2, none⟩) (Kd.R_far (p := ⟨gb331, 1, none⟩) (Kd.R_far (p := ⟨gb331, 0, none⟩) (Kd.R_types HO311.out BK331.out (by decide)) (fun _ hk => hk.2) (.int .i64 t312)) (fun _ hk => hk.2) (.int .i64 t313)) (fun _ hk => hk.2) (.int .i64 t314)) (fun _ hk => hk.2) (.int .i64 t315)) (fun _ hk => hk.2) (.int .i64 t316)) (fun _ hk => hk.2) (.int .i64 t317)) (fun _ hk => hk.2) (.bool t318)) (fun _ hk => hk.2) (.int .i64 t319)) (fun _ hk => hk.2) (.int .i64 t320)) (fun _ hk => hk.2) (.slice Ao21 t321.length co21)) (fun _ hk => hk.2) (.int .i64 t324)) (fun _ hk => hk.2) (.int .i64 t325)) (fun _ hk => hk.2) (.int .i64 t326)) (fun _ hk => hk.2) (.slice Ao22 t327.length co22)) (fun _ h_ => h_.1)))); (case side2 => exact (Kd.R_reads' HO311.out).2.1); rintro e w23 ⟨v342, v348, rfl, ho0, ho1, hb⟩; refine ⟨_, rfl, ?_⟩; have n0_ := Aside0.mk (Kd.R_elder' (by (with_reducible repeat (first | apply Kd.R_alloc | apply Kd.R_drewN | apply Kd.R_drew)); exact (Kd.R_mono (Kd.R_far (p := ⟨gb331, 13, none⟩) (Kd.R_far (p := ⟨gb331, 12, none⟩) (Kd.R_far (p := ⟨gb331, 11, none⟩) (Kd.R_far (p := ⟨gb331, 10, none⟩) (Kd.R_far (p := ⟨gb331, 9, none⟩) (Kd.R_far (p := ⟨gb331, 8, none⟩) (Kd.R_far (p := ⟨gb331, 7, none⟩) (Kd.R_far (p := ⟨gb331, 6, none⟩) (Kd.R_far (p := ⟨gb331, 5, none⟩) (Kd.R_far (p := ⟨gb331, 4, none⟩) (Kd.R_far (p := ⟨gb331, 3, none⟩) (Kd.R_far (p := ⟨gb331, 2, none⟩) (Kd.R_far (p := ⟨gb331, 1, none⟩) (Kd.R_far (p := ⟨gb331, 0, none⟩) (Kd.R_types HO311.out BK331.out (by decide)) (fun _ hk => hk.2) (.int .i64 t312)) (fun _ hk => hk.2) (.int .i64 t313)) (fun _ hk => hk.2) (.int .i64 t314)) (fun _ hk => hk.2) (.int .i64 t315)) (fun _ hk => hk.2) (.int .i64 t316)) (fun _ hk => hk.2) (.int .i64 t317)) (fun _ hk => hk.2) (.bool t318)) (fun _ hk => hk.2) (.int .i64 t319)) (fun _ hk => hk.2) (.int .i64 t320)) (fun _ hk => hk.2) (.slice Ao21 t321.length co21)) (fun _ hk => hk.2) (.int .i64 t324)) (fun _ hk => hk.2) (.int .i64 t325)) (fun _ hk => hk.2) (.int .i64 t326)) (fun _ hk => hk.2) (.slice Ao22 t327.length co22)) (fun _ h_ => h_.1))) (Kd.R_base ho1) hb); have n1_ := Aside0.mk (Kd.R_elder' (by (with_reducible repeat (first | apply Kd.R_alloc | apply Kd.R_drewN | apply Kd.R_drew)); exact (Kd.R_mono (Kd.R_far (p := ⟨gb331, 13, none⟩) (Kd.R_far (p := ⟨gb331, 12, none⟩) (Kd.R_far (p := ⟨gb331, 11, none⟩) (Kd.R_far (p := ⟨gb331, 10, none⟩) (Kd.R_far (p := ⟨gb331, 9, none⟩) (Kd.R_far (p := ⟨gb331, 8, none⟩) (Kd.R_far (p := ⟨gb331, 7, none⟩) (Kd.R_far (p := ⟨gb331, 6, none⟩) (Kd.R_far (p := ⟨gb331, 5, none⟩) (Kd.R_far (p := ⟨gb331, 4, none⟩) (Kd.R_far (p := ⟨gb331, 3, none⟩) (Kd.R_far (p := ⟨gb331, 2, none⟩) (Kd.R_far (p := ⟨gb331, 1, none⟩) (Kd.R_far (p := ⟨gb331, 0, none⟩) (Kd.R_types HO323.out BK331.out (by decide)) (fun _ hk => hk.2) (.int .i64 t312)) (fun _ hk => hk.2) (.int .i64 t313)) (fun _ hk => hk.2) (.int .i64 t314)) (fun _ hk => hk.2) (.int .i64 t315)) (fun _ hk => hk.2) (.int .i64 t316)) (fun _ hk => hk.2) (.int .i64 t317)) (fun _ hk => hk.2) (.bool t318)) (fun _ hk => hk.2) (.int .i64 t319)) (fun _ hk => hk.2) (.int .i64 t320)) (fun _ hk => hk.2) (.slice Ao21 t321.length co21)) (fun _ hk => hk.2) (.int .i64 t324)) (fun _ hk => hk.2) (.int .i64 t325)) (fun _ hk => hk.2) (.int .i64 t326)) (fun _ hk => hk.2) (.slice Ao22 t327.length co22)) (fun _ h_ => h_.1))) (Kd.R_base ho0) hb); have n2_ := Aside0.mk (Kd.R_elder' (by (with_reducible repeat (first | apply Kd.R_alloc | apply Kd.R_drewN | apply Kd.R_drew)); exact (Kd.R_mono (Kd.R_far (p := ⟨gb331, 13, none⟩) (Kd.R_far (p := ⟨gb331, 12, none⟩) (Kd.R_far (p := ⟨gb331, 11, none⟩) (Kd.R_far (p := ⟨gb331, 10, none⟩) (Kd.R_far (p := ⟨gb331, 9, none⟩) (Kd.R_far (p := ⟨gb331, 8, none⟩) (Kd.R_far (p := ⟨gb331, 7, none⟩) (Kd.R_far (p := ⟨gb331, 6, none⟩) (Kd.R_far (p := ⟨gb331, 5, none⟩) (Kd.R_far (p := ⟨gb331, 4, none⟩) (Kd.R_far (p := ⟨gb331, 3, none⟩) (Kd.R_far (p := ⟨gb331, 2, none⟩) (Kd.R_far (p := ⟨gb331, 1, none⟩) (Kd.R_far (p := ⟨gb331, 0, none⟩) (Kd.R_types HO329.out BK331.out (by decide)) (fun _ hk => hk.2) (.int .i64 t312)) (fun _ hk => hk.2) (.int .i64 t313)) (fun _ hk => hk.2) (.int .i64 t314)) (fun _ hk => hk.2) (.int .i64 t315)) (fun _ hk => hk.2) (.int .i64 t316)) (fun _ hk => hk.2) (.int .i64 t317)) (fun _ hk => hk.2) (.bool t318)) (fun _ hk => hk.2) (.int .i64 t319)) (fun _ hk => hk.2) (.int .i64 t320)) (fun _ hk => hk.2) (.slice Ao21 t321.length co21)) (fun _ hk => hk.2) (.int .i64 t324)) (fun _ hk => hk.2) (.int .i64 t325)) (fun _ hk => hk.2) (.int .i64 t326)) (fun _ hk => hk.2) (.slice Ao22 t327.length co22)) (fun _ h_ => h_.1))) (Kd.R_base ho1) hb); have n3_ := Aside0.mk (Kd.R_lower (Kd.R_new' ho0 (Kd.R_lt (by (with_reducible repeat (first | apply Kd.R_alloc | apply Kd.R_drewN | apply Kd.R_drew)); exact (Kd.R_mono (Kd.R_far (p := ⟨gb331, 13, none⟩) (Kd.R_far (p := ⟨gb331, 12, none⟩) (Kd.R_far (p := ⟨gb331, 11, none⟩) (Kd.R_far (p := ⟨gb331, 10, none⟩) (Kd.R_far (p := ⟨gb331, 9, none⟩) (Kd.R_far (p := ⟨gb331, 8, none⟩) (Kd.R_far (p := ⟨gb331, 7, none⟩) (Kd.R_far (p := ⟨gb331, 6, none⟩) (Kd.R_far (p := ⟨gb331, 5, none⟩) (Kd.R_far (p := ⟨gb331, 4, none⟩) (Kd.R_far (p := ⟨gb331, 3, none⟩) (Kd.R_far (p := ⟨gb331, 2, none⟩) (Kd.R_far (p := ⟨gb331, 1, none⟩) (Kd.R_far (p := ⟨gb331, 0, none⟩) (Kd.R_types HO323.out BK331.out (by decide)) (fun _ hk => hk.2) (.int .i64 t312)) (fun _ hk => hk.2) (.int .i64 t313)) (fun _ hk => hk.2) (.int .i64 t314)) (fun _ hk => hk.2) (.int .i64 t315)) (fun _ hk => hk.2) (.int .i64 t316)) (fun _ hk => hk.2) (.int .i64 t317)) (fun _ hk => hk.2) (.bool t318)) (fun _ hk => hk.2) (.int .i64 t319)) (fun _ hk => hk.2) (.int .i64 t320)) (fun _ hk => hk.2) (.slice Ao21 t321.length co21)) (fun _ hk => hk.2) (.int .i64 t324)) (fun _ hk => hk.2) (.int .i64 t325)) (fun _ hk => hk.2) (.int .i64 t326)) (fun _ hk => hk.2) (.slice Ao22 t327.length co22)) (fun _ h_ => h_.1))))) (below_size (by repeat (first | (with_reducible first | exact HB.out | apply below_alloc | apply pw_below_drewN | apply below_drew1 | refine below_set ?_ GE331.out) | exact HB.out)))); have n4_ := Aside0.mk (Kd.R_lower (Kd.R_new' (Kd.R_new' ho1 (Kd.R_lt (by (with_reducible repeat (first | apply Kd.R_alloc | apply Kd.R_drewN | apply Kd.R_drew)); exact (Kd.R_mono (Kd.R_far (p := ⟨gb331, 13, none⟩) (Kd.R_far (p := ⟨gb331, 12, none⟩) (Kd.R_far (p := ⟨gb331, 11, none⟩) (Kd.R_far (p := ⟨gb331, 10, none⟩) (Kd.R_far (p := ⟨gb331, 9, none⟩) (Kd.R_far (p := ⟨gb331, 8, none⟩) (Kd.R_far (p := ⟨gb331, 7, none⟩) (Kd.R_far (p := ⟨gb331, 6, none⟩) (Kd.R_far (p := ⟨gb331, 5, none⟩) (Kd.R_far (p := ⟨gb331, 4, none⟩) (Kd.R_far (p := ⟨gb331, 3, none⟩) (Kd.R_far (p := ⟨gb331, 2, none⟩) (Kd.R_far (p := ⟨gb331, 1, none⟩) (Kd.R_far (p := ⟨gb331, 0, none⟩) (Kd.R_types HO311.out BK331.out (by decide)) (fun _ hk => hk.2) (.int .i64 t312)) (fun _ hk => hk.2) (.int .i64 t313)) (fun _ hk => hk.2) (.int .i64 t314)) (fun _ hk => hk.2) (.int .i64 t315)) (fun _ hk => hk.2) (.int .i64 t316)) (fun _ hk => hk.2) (.int .i64 t317)) (fun _ hk => hk.2) (.bool t318)) (fun _ hk => hk.2) (.int .i64 t319)) (fun _ hk => hk.2) (.int .i64 t320)) (fun _ hk => hk.2) (.slice Ao21 t321.length co21)) (fun _ hk => hk.2) (.int .i64 t324)) (fun _ hk => hk.2) (.int .i64 t325)) (fun _ hk => hk.2) (.int .i64 t326)) (fun _ hk => hk.2) (.slice Ao22 t327.length co22)) (fun _ h_ => h_.1))))) (Kd.R_lt (by (with_reducible repeat (first | apply Kd.R_alloc | apply Kd.R_drewN | apply Kd.R_drew)); exact (Kd.R_mono (Kd.R_far (p := ⟨gb331, 13, none⟩) (Kd.R_far (p := ⟨gb331, 12, none⟩) (Kd.R_far (p := ⟨gb331, 11, none⟩) (Kd.R_far (p := ⟨gb331, 10, none⟩) (Kd.R_far (p := ⟨gb331, 9, none⟩) (Kd.R_far (p := ⟨gb331, 8, none⟩) (Kd.R_far (p := ⟨gb331, 7, none⟩) (Kd.R_far (p := ⟨gb331, 6, none⟩) (Kd.R_far (p := ⟨gb331, 5, none⟩) (Kd.R_far (p := ⟨gb331, 4, none⟩) (Kd.R_far (p := ⟨gb331, 3, none⟩) (Kd.R_far (p := ⟨gb331, 2, none⟩) (Kd.R_far (p := ⟨gb331, 1, none⟩) (Kd.R_far (p := ⟨gb331, 0, none⟩) (Kd.R_types HO329.out BK331.out (by decide)) (fun _ hk => hk.2) (.int .i64 t312)) (fun _ hk => hk.2) (.int .i64 t313)) (fun _ hk => hk.2) (.int .i64 t314)) (fun _ hk => hk.2) (.int .i64 t315)) (fun _ hk => hk.2) (.int .i64 t316)) (fun _ hk => hk.2) (.int .i64 t317)) (fun _ hk => hk.2) (.bool t318)) (fun _ hk => hk.2) (.int .i64 t319)) (fun _ hk => hk.2) (.int .i64 t320)) (fun _ hk => hk.2) (.slice Ao21 t321.length co21)) (fun _ hk => hk.2) (.int .i64 t324)) (fun _ hk => hk.2) (.int .i64 t325)) (fun _ hk => hk.2) (.int .i64 t326)) (fun _ hk => hk.2) (.slice Ao22 t327.length co22)) (fun _ h_ => h_.1))))) (below_size (by repeat (first | (with_reducible first | exact HB.out | apply below_alloc | apply pw_below_drewN | apply below_drew1 | refine below_set ?_ GE331.out) | exact HB.out)))); have n5_ := Aside0.mk (blk_below (g := gb331) (o := .cells #[.int .i64 t312, .int .i64 t313, .int .i64 t314, .int .i64 t315, .int .i64 t316, .int .i64 t317, .bool t318, .int .i64 t319, .int .i64 t320, .slice Ao21 t321.length co21, .int .i64 t324, .int .i64 t325, .int .i64 t326, .slice Ao22 t327.length co22] 26 (0, 0)) (by (with_reducible repeat (first | refine blk_drewN ?_ _ | refine blk_drew ?_ | refine blk_alloc ?_ _)); refine blk_put (cs := #[.int .i64 t312, .int .i64 t313, .int .i64 t314, .int .i64 t315, .int .i64 t316, .int .i64 t317, .bool t318, .int .i64 t319, .int .i64 t320, .slice Ao21 t321.length co21, .int .i64 t324, .int .i64 t325, .int .i64 t326, .slice none 0 0]) ?_ 13 _ rfl; (with_reducible repeat (first | refine blk_drewN ?_ _ | refine blk_drew ?_ | refine blk_alloc ?_ _)); refine blk_put (cs := #[.int .i64 t312, .int .i64 t313, .int .i64 t314, .int .i64 t315, .int .i64 t316, .int .i64 t317, .bool t318, .int .i64 t319, .int .i64 t320, .slice Ao21 t321.length co21, .int .i64 t324, .int .i64 t325, .int .i64 0, .slice none 0 0]) ?_ 12 _ rfl; (with_reducible repeat (first | refine blk_drewN ?_ _ | refine blk_drew ?_ | refine blk_alloc ?_ _)); refine blk_put (cs := #[.int .i64 t312, .int .i64 t313, .int .i64 t314, .int .i64 t315, .int .i64 t316, .int .i64 t317, .bool t318, .int .i64 t319, .int .i64 t320, .slice Ao21 t321.length co21, .int .i64 t324, .int .i64 0, .int .i64 0, .slice none 0 0]) ?_ 11 _ rfl; (with_reducible repeat (first | refine blk_drewN ?_ _ | refine blk_drew ?_ | refine blk_alloc ?_ _)); refine blk_put (cs := #[.int .i64 t312, .int .i64 t313, .int .i64 t314, .int .i64 t315, .int .i64 t316, .int .i64 t317, .bool t318, .int .i64 t319, .int .i64 t320, .slice Ao21 t321.length co21, .int .i64 0, .int .i64 0, .int .i64 0, .slice none 0 0]) ?_ 10 _ rfl; (with_reducible repeat (first | refine blk_drewN ?_ _ | refine blk_drew ?_ | refine blk_alloc ?_ _)); refine blk_put (cs := #[.int .i64 t312, .int .i64 t313, .int .i64 t314, .int .i64 t315, .int .i64 t316, .int .i64 t317, .bool t318, .int .i64 t319, .int .i64 t320, .slice none 0 0, .int .i64 0, .int .i64 0, .int .i64 0, .slice none 0 0]) ?_ 9 _ rfl; (with_reducible repeat (first | refine blk_drewN ?_ _ | refine blk_drew ?_ | refine blk_alloc ?_ _)); refine blk_put (cs := #[.int .i64 t312, .int .i64 t313, .int .i64 t314, .int .i64 t315, .int .i64 t316, .int .i64 t317, .bool t318, .int .i64 t319, .int .i64 0, .slice none 0 0, .int .i64 0, .int .i64 0, .int .i64 0, .slice none 0 0]) ?_ 8 _ rfl; (with_reducible repeat (first | refine blk_drewN ?_ _ | refine blk_drew ?_ | refine blk_alloc ?_ _)); refine blk_put (cs := #[.int .i64 t312, .int .i64 t313, .int .i64 t314, .int .i64 t315, .int .i64 t316, .int .i64 t317, .bool t318, .int .i64 0, .int .i64 0, .slice none 0 0, .int .i64 0, .int .i64 0, .int .i64 0, .slice none 0 0]) ?_ 7 _ rfl; (with_reducible repeat (first | refine blk_drewN ?_ _ | refine blk_drew ?_ | refine blk_alloc ?_ _)); refine blk_put (cs := #[.int .i64 t312, .int .i64 t313, .int .i64 t314, .int .i64 t315, .int .i64 t316, .int .i64 t317, .bool false, .int .i64 0, .int .i64 0, .slice none 0 0, .int .i64 0, .int .i64 0, .int .i64 0, .slice none 0 0]) ?_ 6 _ rfl; (with_reducible repeat (first | refine blk_drewN ?_ _ | refine blk_drew ?_ | refine blk_alloc ?_ _)); refine blk_put (cs := #[.int .i64 t312, .int .i64 t313, .int .i64 t314, .int .i64 t315, .int .i64 t316, .int .i64 0, .bool false, .int .i64 0, .int .i64 0, .slice none 0 0, .int .i64 0, .int .i64 0, .int .i64 0, .slice none 0 0]) ?_ 5 _ rfl; (with_reducible repeat (first | refine blk_drewN ?_ _ | refine blk_drew ?_ | refine blk_alloc ?_ _)); refine blk_put (cs := #[.int .i64 t312, .int .i64 t313, .int .i64 t314, .int .i64 t315, .int .i64 0, .int .i64 0, .bool false, .int .i64 0, .int .i64 0, .slice none 0 0, .int .i64 0, .int .i64 0, .int .i64 0, .slice none 0 0]) ?_ 4 _ rfl; (with_reducible repeat (first | refine blk_drewN ?_ _ | refine blk_drew ?_ | refine blk_alloc ?_ _)); refine blk_put (cs := #[.int .i64 t312, .int .i64 t313, .int .i64 t314, .int .i64 0, .int .i64 0, .int .i64 0, .bool false, .int .i64 0, .int .i64 0, .slice none 0 0, .int .i64 0, .int .i64 0, .int .i64 0, .slice none 0 0]) ?_ 3 _ rfl; (with_reducible repeat (first | refine blk_drewN ?_ _ | refine blk_drew ?_ | refine blk_alloc ?_ _)); refine blk_put (cs := #[.int .i64 t312, .int .i64 t313, .int .i64 0, .int .i64 0, .int .i64 0, .int .i64 0, .bool false, .int .i64 0, .int .i64 0, .slice none 0 0, .int .i64 0, .int .i64 0, .int .i64 0, .slice none 0 0]) ?_ 2 _ rfl; (with_reducible repeat (first | refine blk_drewN ?_ _ | refine blk_drew ?_ | refine blk_alloc ?_ _)); refine blk_put (cs := #[.int .i64 t312, .int .i64 0, .int .i64 0, .int .i64 0, .int .i64 0, .int .i64 0, .bool false, .int .i64 0, .int .i64 0, .slice none 0 0, .int .i64 0, .int .i64 0, .int .i64 0, .slice none 0 0]) ?_ 1 _ rfl; (with_reducible repeat (first | refine blk_drewN ?_ _ | refine blk_drew ?_ | refine blk_alloc ?_ _)); refine blk_put (cs := #[.int .i64 0, .int .i64 0, .int .i64 0, .int .i64 0, .int .i64 0, .int .i64 0, .bool false, .int .i64 0, .int .i64 0, .slice none 0 0, .int .i64 0, .int .i64 0, .int .i64 0, .slice none 0 0]) ?_ 0 _ rfl; (with_reducible repeat (first | refine blk_drewN ?_ _ | refine blk_drew ?_ | refine blk_alloc ?_ _)); exact BK331.out) hb); have n6_ := Aside0.mk (below_step (by repeat (first | (with_reducible first | exact HB.out | apply below_alloc | apply pw_below_drewN | apply below_drew1 | refine below_set ?_ GE331.out) | exact HB.out)) hb); clear HO311; clear HO323; clear HO329; clear BK331; clear HB; have HO311 := n0_; have HO323 := n1_; have HO329 := n2_; have HO343 := n3_; have HO349 := n4_; have BK331 := n5_; have HB := n6_; clear n0_ n1_ n2_ n3_ n4_ n5_ n6_; (try clear hb); (try clear hb2); (try clear hk); (try clear hi); (try clear ho0); (try clear ho1)) | ((with_reducible refine gate_dst (N := 6) rfl ?_); (try (refine gate_guard (by rfl) ?_; dsimp only)); refine box_event ?hg (N := 6) ?hd (cs := #[.int .i64 0, .int .i64 0, .int .i64 0, .int .i64 0, .int .i64 0, .int .i64 0, .bool false, .int .i64 0, .int .i64 0, .slice none 0 0, .int .i64 0, .int .i64 0, .int .i64 0, .slice none 0 0]) (t := 26) ?hr ?_; (case hd => rfl); (case hg => rfl); (case hr => first | (go_simp; done) | (go_simp; rfl)); intro gb351 hg w24 hbox hb; have n0_ := Aside0.mk (Kd.R_below (by (with_reducible repeat (first | apply Kd.R_alloc | apply Kd.R_drewN | apply Kd.R_drew)); exact HO311.out) hb); have n1_ := Aside0.mk (Kd.R_below (by (with_reducible repeat (first | apply Kd.R_alloc | apply Kd.R_drewN | apply Kd.R_drew)); exact HO323.out) hb); have n2_ := Aside0.mk (Kd.R_below (by (with_reducible repeat (first | apply Kd.R_alloc | apply Kd.R_drewN | apply Kd.R_drew)); exact HO329.out) hb); have n3_ := Aside0.mk (Kd.R_below (by (with_reducible repeat (first | apply Kd.R_alloc | apply Kd.R_drewN | apply Kd.R_drew)); exact HO343.out) hb); have n4_ := Aside0.mk (Kd.R_below (by (with_reducible repeat (first | apply Kd.R_alloc | apply Kd.R_drewN | apply Kd.R_drew)); exact HO349.out) hb); have n5_ := Aside0.mk (blk_below (g := gb331) (o := .cells #[.int .i64 t312, .int .i64 t313, .int .i64 t314, .int .i64 t315, .int .i64 t316, .int .i64 t317, .bool t318, .int .i64 t319, .int .i64 t320, .slice Ao21 t321.length co21, .int .i64 t324, .int .i64 t325, .int .i64 t326, .slice Ao22 t327.length co22] 26 (0, 0)) (by (with_reducible repeat (first | refine blk_drewN ?_ _ | refine blk_drew ?_ | refine blk_alloc ?_ _)); exact BK331.out) hb); have n6_ := Aside0.mk (below_step (by repeat (first | (with_reducible first | exact HB.out | apply below_alloc | apply pw_below_drewN | apply below_drew1 | refine below_set ?_ GE331.out) | exact HB.out)) hb); have n7_ := Aside0.mk (hbox); have n8_ := Aside0.mk ((by rw [hg]; exact (below_size (by repeat (first | (with_reducible first | exact HB.out | apply below_alloc | apply pw_below_drewN | apply below_drew1 | refine below_set ?_ GE331.out) | exact HB.out))) : w.heap.size ≤ gb351)); have n9_ := Aside0.mk ((by rw [hg]; exact (below_size (by repeat (first | (with_reducible first | exact HB.out | apply below_alloc | apply pw_below_drewN | apply below_drew1 | refine below_set ?_ GE331.out) | exact HB.out))) : w.heap.size ≤ gb351)); have n10_ := Aside0.mk ((by rw [hg]; exact Nat.ne_of_lt (blk_lt (g := gb331) (o := .cells #[.int .i64 t312, .int .i64 t313, .int .i64 t314, .int .i64 t315, .int .i64 t316, .int .i64 t317, .bool t318, .int .i64 t319, .int .i64 t320, .slice Ao21 t321.length co21, .int .i64 t324, .int .i64 t325, .int .i64 t326, .slice Ao22 t327.length co22] 26 (0, 0)) (by (with_reducible repeat (first | refine blk_drewN ?_ _ | refine blk_drew ?_ | refine blk_alloc ?_ _)); exact BK331.out)) : gb331 ≠ gb351)); have n11_ := Aside0.mk ((by rw [hg]; exact Nat.ne_of_gt (blk_lt (g := gb331) (o := .cells #[.int .i64 t312, .int .i64 t313, .int .i64 t314, .int .i64 t315, .int .i64 t316, .int .i64 t317, .bool t318, .int .i64 t319, .int .i64 t320, .slice Ao21 t321.length co21, .int .i64 t324, .int .i64 t325, .int .i64 t326, .slice Ao22 t327.length co22] 26 (0, 0)) (by (with_reducible repeat (first | refine blk_drewN ?_ _ | refine blk_drew ?_ | refine blk_alloc ?_ _)); exact BK331.out)) : gb351 ≠ gb331)); clear HO311; clear HO323; clear HO329; clear HO343; clear HO349; clear BK331; clear HB; have HO311 := n0_; have HO323 := n1_; have HO329 := n2_; have HO343 := n3_; have HO349 := n4_; have BK331 := n5_; have HB := n6_; have BK351 := n7_; have GW351 := n8_; have GE351 := n9_; have NB331_351 := n10_; have NB351_331 := n11_; clear n0_ n1_ n2_ n3_ n4_ n5_ n6_ n7_ n8_ n9_ n10_ n11_; clear hb hbox hg; have hnb25 := NB351_331.out; have hnc25 := NB331_351.out; obtain ⟨hcz26_0, hcz26_1, hcz26_2, hcz26_3, hcz26_4, hcz26_5, hcz26_6, hcz26_7, hcz26_8, hcz26_9, hcz26_10, hcz26_11, hcz26_12, hcz26_13⟩ := cellsK14 BK351.out; obtain ⟨hfz26_0, hfz26_1, hfz26_2, hfz26_3, hfz26_4, hfz26_5, hfz26_6, hfz26_7, hfz26_8, hfz26_9, hfz26_10, hfz26_11, hfz26_12, hfz26_13⟩ := frozK14 BK351.out; obtain ⟨Ao27, co27, eo27⟩ := Kd.R_slice HO343.out; subst eo27; obtain ⟨Ao28, co28, eo28⟩ := Kd.R_slice HO349.out; subst eo28) | ((with_reducible refine gate_callee (f := 8) rfl ?_); refine goesL_ (some 36) rfl rfl Tryz.func8 (by kernel_rfl) rfl #[.slice Ao17 t309.length co17] rfl (by (try simp only [List.map_toArray, List.map_cons, List.map_nil]); first | done | rfl | (simp only [List.length_drop, List.length_take]; rfl)) ?_; (with_reducible refine (frame_Why.calls _ _ t309 t352 t353 _ ?side1 ?side2 A13.out (HG.out.below (by repeat (first | (with_reducible first | exact HB.out | apply below_alloc | apply pw_below_drewN | apply below_drew1 | refine below_set ?_ GE331.out | refine below_set ?_ GE351.out) | exact HB.out)))).mono ?_); (case side1 => refine (Kd.R_reads' (e := 5) (base := w.heap.size) (ok := fun k_ => ((True ∧ some k_ ≠ (.slice Ao22 t327.length co22 : Value).ownBlock) ∧ some k_ ≠ (.slice Ao28 t347.length co28 : Value).ownBlock)) (n := t309.length) (c := co17) ?_).2.2; exact (by (with_reducible repeat (first | apply Kd.R_alloc | apply Kd.R_drewN | apply Kd.R_drew)); exact (Kd.R_mono (Kd.R_far (p := ⟨gb351, 13, none⟩) (Kd.R_far (p := ⟨gb351, 12, none⟩) (Kd.R_far (p := ⟨gb351, 11, none⟩) (Kd.R_far (p := ⟨gb351, 10, none⟩) (Kd.R_far (p := ⟨gb351, 9, none⟩) (Kd.R_far (p := ⟨gb351, 8, none⟩) (Kd.R_far (p := ⟨gb351, 7, none⟩) (Kd.R_far (p := ⟨gb351, 6, none⟩) (Kd.R_far (p := ⟨gb351, 5, none⟩) (Kd.R_far (p := ⟨gb351, 4, none⟩) (Kd.R_far (p := ⟨gb351, 3, none⟩) (Kd.R_far (p := ⟨gb351, 2, none⟩) (Kd.R_far (p := ⟨gb351, 1, none⟩) (Kd.R_far (p := ⟨gb351, 0, none⟩) (Kd.R_types HO311.out BK351.out (by decide)) (fun _ hk => hk.2) (.int .i64 t332)) (fun _ hk => hk.2) (.int .i64 t333)) (fun _ hk => hk.2) (.int .i64 t334)) (fun _ hk => hk.2) (.int .i64 t335)) (fun _ hk => hk.2) (.int .i64 t336)) (fun _ hk => hk.2) (.int .i64 t337)) (fun _ hk => hk.2) (.bool t338)) (fun _ hk => hk.2) (.int .i64 t339)) (fun _ hk => hk.2) (.int .i64 t340)) (fun _ hk => hk.2) (.slice Ao27 t341.length co27)) (fun _ hk => hk.2) (.int .i64 t344)) (fun _ hk => hk.2) (.int .i64 t345)) (fun _ hk => hk.2) (.int .i64 t346)) (fun _ hk => hk.2) (.slice Ao28 t347.length co28)) (fun _ h_ => h_.1)))); (case side2 => exact (Kd.R_reads' HO311.out).2.1); rintro e w29 ⟨rfl, hb⟩; refine ⟨_, rfl, ?_⟩; have n0_ := Aside0.mk (Kd.R_below (by (with_reducible repeat (first | apply Kd.R_alloc | apply Kd.R_drewN | apply Kd.R_drew)); exact (Kd.R_mono (Kd.R_far (p := ⟨gb351, 13, none⟩) (Kd.R_far (p := ⟨gb351, 12, none⟩) (Kd.R_far (p := ⟨gb351, 11, none⟩) (Kd.R_far (p := ⟨gb351, 10, none⟩) (Kd.R_far (p := ⟨gb351, 9, none⟩) (Kd.R_far (p := ⟨gb351, 8, none⟩) (Kd.R_far (p := ⟨gb351, 7, none⟩) (Kd.R_far (p := ⟨gb351, 6, none⟩) (Kd.R_far (p := ⟨gb351, 5, none⟩) (Kd.R_far (p := ⟨gb351, 4, none⟩) (Kd.R_far (p := ⟨gb351, 3, none⟩) (Kd.R_far (p := ⟨gb351, 2, none⟩) (Kd.R_far (p := ⟨gb351, 1, none⟩) (Kd.R_far (p := ⟨gb351, 0, none⟩) (Kd.R_types HO311.out BK351.out (by decide)) (fun _ hk => hk.2) (.int .i64 t332)) (fun _ hk => hk.2) (.int .i64 t333)) (fun _ hk => hk.2) (.int .i64 t334)) (fun _ hk => hk.2) (.int .i64 t335)) (fun _ hk => hk.2) (.int .i64 t336)) (fun _ hk => hk.2) (.int .i64 t337)) (fun _ hk => hk.2) (.bool t338)) (fun _ hk => hk.2) (.int .i64 t339)) (fun _ hk => hk.2) (.int .i64 t340)) (fun _ hk => hk.2) (.slice Ao27 t341.length co27)) (fun _ hk => hk.2) (.int .i64 t344)) (fun _ hk => hk.2) (.int .i64 t345)) (fun _ hk => hk.2) (.int .i64 t346)) (fun _ hk => hk.2) (.slice Ao28 t347.length co28)) (fun _ h_ => h_.1))) hb); have n1_ := Aside0.mk (Kd.R_below (by (with_reducible repeat (first | apply Kd.R_alloc | apply Kd.R_drewN | apply Kd.R_drew)); exact (Kd.R_mono (Kd.R_far (p := ⟨gb351, 13, none⟩) (Kd.R_far (p := ⟨gb351, 12, none⟩) (Kd.R_far (p := ⟨gb351, 11, none⟩) (Kd.R_far (p := ⟨gb351, 10, none⟩) (Kd.R_far (p := ⟨gb351, 9, none⟩) (Kd.R_far (p := ⟨gb351, 8, none⟩) (Kd.R_far (p := ⟨gb351, 7, none⟩) (Kd.R_far (p := ⟨gb351, 6, none⟩) (Kd.R_far (p := ⟨gb351, 5, none⟩) (Kd.R_far (p := ⟨gb351, 4, none⟩) (Kd.R_far (p := ⟨gb351, 3, none⟩) (Kd.R_far (p := ⟨gb351, 2, none⟩) (Kd.R_far (p := ⟨gb351, 1, none⟩) (Kd.R_far (p := ⟨gb351, 0, none⟩) (Kd.R_types HO323.out BK351.out (by decide)) (fun _ hk => hk.2) (.int .i64 t332)) (fun _ hk => hk.2) (.int .i64 t333)) (fun _ hk => hk.2) (.int .i64 t334)) (fun _ hk => hk.2) (.int .i64 t335)) (fun _ hk => hk.2) (.int .i64 t336)) (fun _ hk => hk.2) (.int .i64 t337)) (fun _ hk => hk.2) (.bool t338)) (fun _ hk => hk.2) (.int .i64 t339)) (fun _ hk => hk.2) (.int .i64 t340)) (fun _ hk => hk.2) (.slice Ao27 t341.length co27)) (fun _ hk => hk.2) (.int .i64 t344)) (fun _ hk => hk.2) (.int .i64 t345)) (fun _ hk => hk.2) (.int .i64 t346)) (fun _ hk => hk.2) (.slice Ao28 t347.length co28)) (fun _ h_ => h_.1))) hb); have n2_ := Aside0.mk (Kd.R_below (by (with_reducible repeat (first | apply Kd.R_alloc | apply Kd.R_drewN | apply Kd.R_drew)); exact (Kd.R_mono (Kd.R_far (p := ⟨gb351, 13, none⟩) (Kd.R_far (p := ⟨gb351, 12, none⟩) (Kd.R_far (p := ⟨gb351, 11, none⟩) (Kd.R_far (p := ⟨gb351, 10, none⟩) (Kd.R_far (p := ⟨gb351, 9, none⟩) (Kd.R_far (p := ⟨gb351, 8, none⟩) (Kd.R_far (p := ⟨gb351, 7, none⟩) (Kd.R_far (p := ⟨gb351, 6, none⟩) (Kd.R_far (p := ⟨gb351, 5, none⟩) (Kd.R_far (p := ⟨gb351, 4, none⟩) (Kd.R_far (p := ⟨gb351, 3, none⟩) (Kd.R_far (p := ⟨gb351, 2, none⟩) (Kd.R_far (p := ⟨gb351, 1, none⟩) (Kd.R_far (p := ⟨gb351, 0, none⟩) (Kd.R_types HO329.out BK351.out (by decide)) (fun _ hk => hk.2) (.int .i64 t332)) (fun _ hk => hk.2) (.int .i64 t333)) (fun _ hk => hk.2) (.int .i64 t334)) (fun _ hk => hk.2) (.int .i64 t335)) (fun _ hk => hk.2) (.int .i64 t336)) (fun _ hk => hk.2) (.int .i64 t337)) (fun _ hk => hk.2) (.bool t338)) (fun _ hk => hk.2) (.int .i64 t339)) (fun _ hk => hk.2) (.int .i64 t340)) (fun _ hk => hk.2) (.slice Ao27 t341.length co27)) (fun _ hk => hk.2) (.int .i64 t344)) (fun _ hk => hk.2) (.int .i64 t345)) (fun _ hk => hk.2) (.int .i64 t346)) (fun _ hk => hk.2) (.slice Ao28 t347.length co28)) (fun _ h_ => h_.1))) hb); have n3_ := Aside0.mk (Kd.R_below (by (with_reducible repeat (first | apply Kd.R_alloc | apply Kd.R_drewN | apply Kd.R_drew)); exact (Kd.R_mono (Kd.R_far (p := ⟨gb351, 13, none⟩) (Kd.R_far (p := ⟨gb351, 12, none⟩) (Kd.R_far (p := ⟨gb351, 11, none⟩) (Kd.R_far (p := ⟨gb351, 10, none⟩) (Kd.R_far (p := ⟨gb351, 9, none⟩) (Kd.R_far (p := ⟨gb351, 8, none⟩) (Kd.R_far (p := ⟨gb351, 7, none⟩) (Kd.R_far (p := ⟨gb351, 6, none⟩) (Kd.R_far (p := ⟨gb351, 5, none⟩) (Kd.R_far (p := ⟨gb351, 4, none⟩) (Kd.R_far (p := ⟨gb351, 3, none⟩) (Kd.R_far (p := ⟨gb351, 2, none⟩) (Kd.R_far (p := ⟨gb351, 1, none⟩) (Kd.R_far (p := ⟨gb351, 0, none⟩) (Kd.R_types HO343.out BK351.out (by decide)) (fun _ hk => hk.2) (.int .i64 t332)) (fun _ hk => hk.2) (.int .i64 t333)) (fun _ hk => hk.2) (.int .i64 t334)) (fun _ hk => hk.2) (.int .i64 t335)) (fun _ hk => hk.2) (.int .i64 t336)) (fun _ hk => hk.2) (.int .i64 t337)) (fun _ hk => hk.2) (.bool t338)) (fun _ hk => hk.2) (.int .i64 t339)) (fun _ hk => hk.2) (.int .i64 t340)) (fun _ hk => hk.2) (.slice Ao27 t341.length co27)) (fun _ hk => hk.2) (.int .i64 t344)) (fun _ hk => hk.2) (.int .i64 t345)) (fun _ hk => hk.2) (.int .i64 t346)) (fun _ hk => hk.2) (.slice Ao28 t347.length co28)) (fun _ h_ => h_.1))) hb); have n4_ := Aside0.mk (Kd.R_below (by (with_reducible repeat (first | apply Kd.R_alloc | apply Kd.R_drewN | apply Kd.R_drew)); exact (Kd.R_mono (Kd.R_far (p := ⟨gb351, 13, none⟩) (Kd.R_far (p := ⟨gb351, 12, none⟩) (Kd.R_far (p := ⟨gb351, 11, none⟩) (Kd.R_far (p := ⟨gb351, 10, none⟩) (Kd.R_far (p := ⟨gb351, 9, none⟩) (Kd.R_far (p := ⟨gb351, 8, none⟩) (Kd.R_far (p := ⟨gb351, 7, none⟩) (Kd.R_far (p := ⟨gb351, 6, none⟩) (Kd.R_far (p := ⟨gb351, 5, none⟩) (Kd.R_far (p := ⟨gb351, 4, none⟩) (Kd.R_far (p := ⟨gb351, 3, none⟩) (Kd.R_far (p := ⟨gb351, 2, none⟩) (Kd.R_far (p := ⟨gb351, 1, none⟩) (Kd.R_far (p := ⟨gb351, 0, none⟩) (Kd.R_types HO349.out BK351.out (by decide)) (fun _ hk => hk.2) (.int .i64 t332)) (fun _ hk => hk.2) (.int .i64 t333)) (fun _ hk => hk.2) (.int .i64 t334)) (fun _ hk => hk.2) (.int .i64 t335)) (fun _ hk => hk.2) (.int .i64 t336)) (fun _ hk => hk.2) (.int .i64 t337)) (fun _ hk => hk.2) (.bool t338)) (fun _ hk => hk.2) (.int .i64 t339)) (fun _ hk => hk.2) (.int .i64 t340)) (fun _ hk => hk.2) (.slice Ao27 t341.length co27)) (fun _ hk => hk.2) (.int .i64 t344)) (fun _ hk => hk.2) (.int .i64 t345)) (fun _ hk => hk.2) (.int .i64 t346)) (fun _ hk => hk.2) (.slice Ao28 t347.length co28)) (fun _ h_ => h_.1))) hb); have n5_ := Aside0.mk (blk_below (g := gb331) (o := .cells #[.int .i64 t312, .int .i64 t313, .int .i64 t314, .int .i64 t315, .int .i64 t316, .int .i64 t317, .bool t318, .int .i64 t319, .int .i64 t320, .slice Ao21 t321.length co21, .int .i64 t324, .int .i64 t325, .int .i64 t326, .slice Ao22 t327.length co22] 26 (0, 0)) (by (with_reducible repeat (first | refine blk_drewN ?_ _ | refine blk_drew ?_ | refine blk_alloc ?_ _)); refine blk_far ?_ NB331_351.out _; (with_reducible repeat (first | refine blk_drewN ?_ _ | refine blk_drew ?_ | refine blk_alloc ?_ _)); refine blk_far ?_ NB331_351.out _; (with_reducible repeat (first | refine blk_drewN ?_ _ | refine blk_drew ?_ | refine blk_alloc ?_ _)); refine blk_far ?_ NB331_351.out _; (with_reducible repeat (first | refine blk_drewN ?_ _ | refine blk_drew ?_ | refine blk_alloc ?_ _)); refine blk_far ?_ NB331_351.out _; (with_reducible repeat (first | refine blk_drewN ?_ _ | refine blk_drew ?_ | refine blk_alloc ?_ _)); refine blk_far ?_ NB331_351.out _; (with_reducible repeat (first | refine blk_drewN ?_ _ | refine blk_drew ?_ | refine blk_alloc ?_ _)); refine blk_far ?_ NB331_351.out _; (with_reducible repeat (first | refine blk_drewN ?_ _ | refine blk_drew ?_ | refine blk_alloc ?_ _)); refine blk_far ?_ NB331_351.out _; (with_reducible repeat (first | refine blk_drewN ?_ _ | refine blk_drew ?_ | refine blk_alloc ?_ _)); refine blk_far ?_ NB331_351.out _; (with_reducible repeat (first | refine blk_drewN ?_ _ | refine blk_drew ?_ | refine blk_alloc ?_ _)); refine blk_far ?_ NB331_351.out _; (with_reducible repeat (first | refine blk_drewN ?_ _ | refine blk_drew ?_ | refine blk_alloc ?_ _)); refine blk_far ?_ NB331_351.out _; (with_reducible repeat (first | refine blk_drewN ?_ _ | refine blk_drew ?_ | refine blk_alloc ?_ _)); refine blk_far ?_ NB331_351.out _; (with_reducible repeat (first | refine blk_drewN ?_ _ | refine blk_drew ?_ | refine blk_alloc ?_ _)); refine blk_far ?_ NB331_351.out _; (with_reducible repeat (first | refine blk_drewN ?_ _ | refine blk_drew ?_ | refine blk_alloc ?_ _)); refine blk_far ?_ NB331_351.out _; (with_reducible repeat (first | refine blk_drewN ?_ _ | refine blk_drew ?_ | refine blk_alloc ?_ _)); refine blk_far ?_ NB331_351.out _; (with_reducible repeat (first | refine blk_drewN ?_ _ | refine blk_drew ?_ | refine blk_alloc ?_ _)); exact BK331.out) hb); have n6_ := Aside0.mk (blk_below (g := gb351) (o := .cells #[.int .i64 t332, .int .i64 t333, .int .i64 t334, .int .i64 t335, .int .i64 t336, .int .i64 t337, .bool t338, .int .i64 t339, .int .i64 t340, .slice Ao27 t341.length co27, .int .i64 t344, .int .i64 t345, .int .i64 t346, .slice Ao28 t347.length co28] 26 (0, 0)) (by (with_reducible repeat (first | refine blk_drewN ?_ _ | refine blk_drew ?_ | refine blk_alloc ?_ _)); refine blk_put (cs := #[.int .i64 t332, .int .i64 t333, .int .i64 t334, .int .i64 t335, .int .i64 t336, .int .i64 t337, .bool t338, .int .i64 t339, .int .i64 t340, .slice Ao27 t341.length co27, .int .i64 t344, .int .i64 t345, .int .i64 t346, .slice none 0 0]) ?_ 13 _ rfl; (with_reducible repeat (first | refine blk_drewN ?_ _ | refine blk_drew ?_ | refine blk_alloc ?_ _)); refine blk_put (cs := #[.int .i64 t332, .int .i64 t333, .int .i64 t334, .int .i64 t335, .int .i64 t336, .int .i64 t337, .bool t338, .int .i64 t339, .int .i64 t340, .slice Ao27 t341.length co27, .int .i64 t344, .int .i64 t345, .int .i64 0, .slice none 0 0]) ?_ 12 _ rfl; (with_reducible repeat (first | refine blk_drewN ?_ _ | refine blk_drew ?_ | refine blk_alloc ?_ _)); refine blk_put (cs := #[.int .i64 t332, .int .i64 t333, .int .i64 t334, .int .i64 t335, .int .i64 t336, .int .i64 t337, .bool t338, .int .i64 t339, .int .i64 t340, .slice Ao27 t341.length co27, .int .i64 t344, .int .i64 0, .int .i64 0, .slice none 0 0]) ?_ 11 _ rfl; (with_reducible repeat (first | refine blk_drewN ?_ _ | refine blk_drew ?_ | refine blk_alloc ?_ _)); refine blk_put (cs := #[.int .i64 t332, .int .i64 t333, .int .i64 t334, .int .i64 t335, .int .i64 t336, .int .i64 t337, .bool t338, .int .i64 t339, .int .i64 t340, .slice Ao27 t341.length co27, .int .i64 0, .int .i64 0, .int .i64 0, .slice none 0 0]) ?_ 10 _ rfl; (with_reducible repeat (first | refine blk_drewN ?_ _ | refine blk_drew ?_ | refine blk_alloc ?_ _)); refine blk_put (cs := #[.int .i64 t332, .int .i64 t333, .int .i64 t334, .int .i64 t335, .int .i64 t336, .int .i64 t337, .bool t338, .int .i64 t339, .int .i64 t340, .slice none 0 0, .int .i64 0, .int .i64 0, .int .i64 0, .slice none 0 0]) ?_ 9 _ rfl; (with_reducible repeat (first | refine blk_drewN ?_ _ | refine blk_drew ?_ | refine blk_alloc ?_ _)); refine blk_put (cs := #[.int .i64 t332, .int .i64 t333, .int .i64 t334, .int .i64 t335, .int .i64 t336, .int .i64 t337, .bool t338, .int .i64 t339, .int .i64 0, .slice none 0 0, .int .i64 0, .int .i64 0, .int .i64 0, .slice none 0 0]) ?_ 8 _ rfl; (with_reducible repeat (first | refine blk_drewN ?_ _ | refine blk_drew ?_ | refine blk_alloc ?_ _)); refine blk_put (cs := #[.int .i64 t332, .int .i64 t333, .int .i64 t334, .int .i64 t335, .int .i64 t336, .int .i64 t337, .bool t338, .int .i64 0, .int .i64 0, .slice none 0 0, .int .i64 0, .int .i64 0, .int .i64 0, .slice none 0 0]) ?_ 7 _ rfl; (with_reducible repeat (first | refine blk_drewN ?_ _ | refine blk_drew ?_ | refine blk_alloc ?_ _)); refine blk_put (cs := #[.int .i64 t332, .int .i64 t333, .int .i64 t334, .int .i64 t335, .int .i64 t336, .int .i64 t337, .bool false, .int .i64 0, .int .i64 0, .slice none 0 0, .int .i64 0, .int .i64 0, .int .i64 0, .slice none 0 0]) ?_ 6 _ rfl; (with_reducible repeat (first | refine blk_drewN ?_ _ | refine blk_drew ?_ | refine blk_alloc ?_ _)); refine blk_put (cs := #[.int .i64 t332, .int .i64 t333, .int .i64 t334, .int .i64 t335, .int .i64 t336, .int .i64 0, .bool false, .int .i64 0, .int .i64 0, .slice none 0 0, .int .i64 0, .int .i64 0, .int .i64 0, .slice none 0 0]) ?_ 5 _ rfl; (with_reducible repeat (first | refine blk_drewN ?_ _ | refine blk_drew ?_ | refine blk_alloc ?_ _)); refine blk_put (cs := #[.int .i64 t332, .int .i64 t333, .int .i64 t334, .int .i64 t335, .int .i64 0, .int .i64 0, .bool false, .int .i64 0, .int .i64 0, .slice none 0 0, .int .i64 0, .int .i64 0, .int .i64 0, .slice none 0 0]) ?_ 4 _ rfl; (with_reducible repeat (first | refine blk_drewN ?_ _ | refine blk_drew ?_ | refine blk_alloc ?_ _)); refine blk_put (cs := #[.int .i64 t332, .int .i64 t333, .int .i64 t334, .int .i64 0, .int .i64 0, .int .i64 0, .bool false, .int .i64 0, .int .i64 0, .slice none 0 0, .int .i64 0, .int .i64 0, .int .i64 0, .slice none 0 0]) ?_ 3 _ rfl; (with_reducible repeat (first | refine blk_drewN ?_ _ | refine blk_drew ?_ | refine blk_alloc ?_ _)); refine blk_put (cs := #[.int .i64 t332, .int .i64 t333, .int .i64 0, .int .i64 0, .int .i64 0, .int .i64 0, .bool false, .int .i64 0, .int .i64 0, .slice none 0 0, .int .i64 0, .int .i64 0, .int .i64 0, .slice none 0 0]) ?_ 2 _ rfl; (with_reducible repeat (first | refine blk_drewN ?_ _ | refine blk_drew ?_ | refine blk_alloc ?_ _)); refine blk_put (cs := #[.int .i64 t332, .int .i64 0, .int .i64 0, .int .i64 0, .int .i64 0, .int .i64 0, .bool false, .int .i64 0, .int .i64 0, .slice none 0 0, .int .i64 0, .int .i64 0, .int .i64 0, .slice none 0 0]) ?_ 1 _ rfl; (with_reducible repeat (first | refine blk_drewN ?_ _ | refine blk_drew ?_ | refine blk_alloc ?_ _)); refine blk_put (cs := #[.int .i64 0, .int .i64 0, .int .i64 0, .int .i64 0, .int .i64 0, .int .i64 0, .bool false, .int .i64 0, .int .i64 0, .slice none 0 0, .int .i64 0, .int .i64 0, .int .i64 0, .slice none 0 0]) ?_ 0 _ rfl; (with_reducible repeat (first | refine blk_drewN ?_ _ | refine blk_drew ?_ | refine blk_alloc ?_ _)); exact BK351.out) hb); have n7_ := Aside0.mk (below_step (by repeat (first | (with_reducible first | exact HB.out | apply below_alloc | apply pw_below_drewN | apply below_drew1 | refine below_set ?_ GE331.out | refine below_set ?_ GE351.out) | exact HB.out)) hb); clear HO311; clear HO323; clear HO329; clear HO343; clear HO349; clear BK331; clear BK351; clear HB; have HO311 := n0_; have HO323 := n1_; have HO329 := n2_; have HO343 := n3_; have HO349 := n4_; have BK331 := n5_; have BK351 := n6_; have HB := n7_; clear n0_ n1_ n2_ n3_ n4_ n5_ n6_ n7_; (try clear hb); (try clear hb2); (try clear hk); (try clear hi)) | ((with_reducible refine gate_callee (f := 9) rfl ?_); refine goesL_ (some 41) rfl rfl Tryz.func9 (by kernel_rfl) rfl #[.slice Ao17 t309.length co17] rfl (by (try simp only [List.map_toArray, List.map_cons, List.map_nil]); first | done | rfl | (simp only [List.length_drop, List.length_take]; rfl)) ?_; (with_reducible refine (drumlineref1_Why.calls _ _ t309 t354 t355 _ ?side1 ?side2 A14.out).mono ?_); (case side1 => repeat (first | exact (Kd.R_reads' HO311.out).2.2 | (with_reducible refine Kd.C_alloc ?_ _) | (with_reducible refine Kd.C_drewN ?_ _) | (with_reducible refine Kd.C_drew ?_))); (case side2 => exact (Kd.R_reads' HO311.out).2.1); rintro e w30 ⟨rfl, hb⟩; refine ⟨_, rfl, ?_⟩; have n0_ := Aside0.mk (Kd.R_below (by (with_reducible repeat (first | apply Kd.R_alloc | apply Kd.R_drewN | apply Kd.R_drew)); exact HO311.out) hb); have n1_ := Aside0.mk (Kd.R_below (by (with_reducible repeat (first | apply Kd.R_alloc | apply Kd.R_drewN | apply Kd.R_drew)); exact HO323.out) hb); have n2_ := Aside0.mk (Kd.R_below (by (with_reducible repeat (first | apply Kd.R_alloc | apply Kd.R_drewN | apply Kd.R_drew)); exact HO329.out) hb); have n3_ := Aside0.mk (Kd.R_below (by (with_reducible repeat (first | apply Kd.R_alloc | apply Kd.R_drewN | apply Kd.R_drew)); exact HO343.out) hb); have n4_ := Aside0.mk (Kd.R_below (by (with_reducible repeat (first | apply Kd.R_alloc | apply Kd.R_drewN | apply Kd.R_drew)); exact HO349.out) hb); have n5_ := Aside0.mk (blk_below (g := gb331) (o := .cells #[.int .i64 t312, .int .i64 t313, .int .i64 t314, .int .i64 t315, .int .i64 t316, .int .i64 t317, .bool t318, .int .i64 t319, .int .i64 t320, .slice Ao21 t321.length co21, .int .i64 t324, .int .i64 t325, .int .i64 t326, .slice Ao22 t327.length co22] 26 (0, 0)) (by (with_reducible repeat (first | refine blk_drewN ?_ _ | refine blk_drew ?_ | refine blk_alloc ?_ _)); exact BK331.out) hb); have n6_ := Aside0.mk (blk_below (g := gb351) (o := .cells #[.int .i64 t332, .int .i64 t333, .int .i64 t334, .int .i64 t335, .int .i64 t336, .int .i64 t337, .bool t338, .int .i64 t339, .int .i64 t340, .slice Ao27 t341.length co27, .int .i64 t344, .int .i64 t345, .int .i64 t346, .slice Ao28 t347.length co28] 26 (0, 0)) (by (with_reducible repeat (first | refine blk_drewN ?_ _ | refine blk_drew ?_ | refine blk_alloc ?_ _)); exact BK351.out) hb); have n7_ := Aside0.mk (below_step (by repeat (first | (with_reducible first | exact HB.out | apply below_alloc | apply pw_below_drewN | apply below_drew1 | refine below_set ?_ GE331.out | refine below_set ?_ GE351.out) | exact HB.out)) hb); clear HO311; clear HO323; clear HO329; clear HO343; clear HO349; clear BK331; clear BK351; clear HB; have HO311 := n0_; have HO323 := n1_; have HO329 := n2_; have HO343 := n3_; have HO349 := n4_; have BK331 := n5_; have BK351 := n6_; have HB := n7_; clear n0_ n1_ n2_ n3_ n4_ n5_ n6_ n7_; (try clear hb); (try clear hb2); (try clear hk); (try clear hi)))
    (try simp only [Act.put, sAa, sBb, sCc])
    go_cut [64] (fun v64 wc => ∃ (kq : Nat) (x64_14 : Bool), v64 = .bool x64_14 ∧ Aside0 (drumlinelaw4_FrameSealed.j1 kq t309 t330 x64_14 t312 t313 t314 t315 t316 t317 t318 t319 t320 t321 t324 t325 t326 t327 = some r) ∧ Aside0 (kq ≤ kj1) ∧ Aside0 (Kd.R (Kd.int .u8) 5 wc w.heap.size (fun k_ => some k_ ≠ ((.slice Ao22 t327.length co22) : Value).ownBlock ∧ some k_ ≠ ((.slice Ao28 t347.length co28) : Value).ownBlock) (.slice Ao17 t309.length co17) t309) ∧ Aside0 (Kd.R (Kd.int .i64) 3 wc w.heap.size (fun k_ => some k_ ≠ ((.slice Ao27 t341.length co27) : Value).ownBlock) (.slice Ao21 t321.length co21) t321) ∧ Aside0 (Kd.R (Kd.int .u8) 5 wc w.heap.size (fun k_ => some k_ ≠ ((.slice Ao17 t309.length co17) : Value).ownBlock ∧ some k_ ≠ ((.slice Ao28 t347.length co28) : Value).ownBlock) (.slice Ao22 t327.length co22) t327) ∧ Aside0 (Kd.R (Kd.int .i64) 3 wc w.heap.size (fun k_ => some k_ ≠ ((.slice Ao21 t321.length co21) : Value).ownBlock) (.slice Ao27 t341.length co27) t341) ∧ Aside0 (Kd.R (Kd.int .u8) 5 wc w.heap.size (fun k_ => some k_ ≠ ((.slice Ao17 t309.length co17) : Value).ownBlock ∧ some k_ ≠ ((.slice Ao22 t327.length co22) : Value).ownBlock) (.slice Ao28 t347.length co28) t347) ∧ Aside0 (wc.heap[gb331]? = some (.cells #[.int .i64 t312, .int .i64 t313, .int .i64 t314, .int .i64 t315, .int .i64 t316, .int .i64 t317, .bool t318, .int .i64 t319, .int .i64 t320, (.slice Ao21 t321.length co21), .int .i64 t324, .int .i64 t325, .int .i64 t326, (.slice Ao22 t327.length co22)] 26 (0, 0))) ∧ Aside0 (wc.heap[gb351]? = some (.cells #[.int .i64 t332, .int .i64 t333, .int .i64 t334, .int .i64 t335, .int .i64 t336, .int .i64 t337, .bool t338, .int .i64 t339, .int .i64 t340, (.slice Ao27 t341.length co27), .int .i64 t344, .int .i64 t345, .int .i64 t346, (.slice Ao28 t347.length co28)] 26 (0, 0))) ∧ Aside0 (Below w.heap.size w wc))
    case first =>
     have H := HC15.out
     clear HC15
     replace H := Option.bind_eq_some_iff.mp H
     obtain ⟨t356, A310, H⟩ := H
     replace H : (if t356 = true then ((drumlinelaw4_num.f t330).bind fun t357 => (if t357 = t350 then ((drumlinelaw4_num.f t352).bind fun t358 => (if t358 = t354 then (drumlinelaw4_FrameSealed.j1 kj1 t309 t330 (t353 != t355) t312 t313 t314 t315 t316 t317 t318 t319 t320 t321 t324 t325 t326 t327) else (drumlinelaw4_FrameSealed.j1 kj1 t309 t330 true t312 t313 t314 t315 t316 t317 t318 t319 t320 t321 t324 t325 t326 t327))) else (drumlinelaw4_FrameSealed.j1 kj1 t309 t330 true t312 t313 t314 t315 t316 t317 t318 t319 t320 t321 t324 t325 t326 t327))) else (drumlinelaw4_FrameSealed.j1 kj1 t309 t330 true t312 t313 t314 t315 t316 t317 t318 t319 t320 t321 t324 t325 t326 t327)) = some r := H
     have A31 := Aside0.mk A310
     clear A310
     by_cases c32 : t356 = true
     ·subst c32
      have H1 : ((drumlinelaw4_num.f t330).bind fun t357 => (if t357 = t350 then ((drumlinelaw4_num.f t352).bind fun t358 => (if t358 = t354 then (drumlinelaw4_FrameSealed.j1 kj1 t309 t330 (t353 != t355) t312 t313 t314 t315 t316 t317 t318 t319 t320 t321 t324 t325 t326 t327) else (drumlinelaw4_FrameSealed.j1 kj1 t309 t330 true t312 t313 t314 t315 t316 t317 t318 t319 t320 t321 t324 t325 t326 t327))) else (drumlinelaw4_FrameSealed.j1 kj1 t309 t330 true t312 t313 t314 t315 t316 t317 t318 t319 t320 t321 t324 t325 t326 t327))) = some r := by rw [if_pos rfl] at H; exact H
      clear H
      have H := H1
      clear H1
      replace H := Option.bind_eq_some_iff.mp H
      obtain ⟨t357, A330, H⟩ := H
      replace H : (if t357 = t350 then ((drumlinelaw4_num.f t352).bind fun t358 => (if t358 = t354 then (drumlinelaw4_FrameSealed.j1 kj1 t309 t330 (t353 != t355) t312 t313 t314 t315 t316 t317 t318 t319 t320 t321 t324 t325 t326 t327) else (drumlinelaw4_FrameSealed.j1 kj1 t309 t330 true t312 t313 t314 t315 t316 t317 t318 t319 t320 t321 t324 t325 t326 t327))) else (drumlinelaw4_FrameSealed.j1 kj1 t309 t330 true t312 t313 t314 t315 t316 t317 t318 t319 t320 t321 t324 t325 t326 t327)) = some r := H
      have A33 := Aside0.mk A330
      clear A330
      by_cases c34 : t357 = t350
      ·rw [if_pos c34] at H
       have c34b0 : (t357 == t350) = true := beq_iff_eq.mpr c34
       have c34b1 : (t357 != t350) = false := bne_eq_false_iff_eq.mpr c34
       clear c34
       (first | rw [c34b0] | (simp only [i64_w, i32_w]; rw [c34b0]) | skip)
       replace H := Option.bind_eq_some_iff.mp H
       obtain ⟨t358, A350, H⟩ := H
       replace H : (if t358 = t354 then (drumlinelaw4_FrameSealed.j1 kj1 t309 t330 (t353 != t355) t312 t313 t314 t315 t316 t317 t318 t319 t320 t321 t324 t325 t326 t327) else (drumlinelaw4_FrameSealed.j1 kj1 t309 t330 true t312 t313 t314 t315 t316 t317 t318 t319 t320 t321 t324 t325 t326 t327)) = some r := H
       have A35 := Aside0.mk A350
       clear A350
       by_cases c36 : t358 = t354
       ·rw [if_pos c36] at H
        have c36b0 : (t358 == t354) = true := beq_iff_eq.mpr c36
        have c36b1 : (t358 != t354) = false := bne_eq_false_iff_eq.mpr c36
        clear c36
        have H' := Aside0.mk H
        clear H
        have hnb37 := NB331_351.out
        have hnc37 := NB351_331.out
        obtain ⟨hcz38_0, hcz38_1, hcz38_2, hcz38_3, hcz38_4, hcz38_5, hcz38_6, hcz38_7, hcz38_8, hcz38_9, hcz38_10, hcz38_11, hcz38_12, hcz38_13⟩ := cellsK14 BK331.out
        obtain ⟨hfz38_0, hfz38_1, hfz38_2, hfz38_3, hfz38_4, hfz38_5, hfz38_6, hfz38_7, hfz38_8, hfz38_9, hfz38_10, hfz38_11, hfz38_12, hfz38_13⟩ := frozK14 BK331.out
        obtain ⟨hcz39_0, hcz39_1, hcz39_2, hcz39_3, hcz39_4, hcz39_5, hcz39_6, hcz39_7, hcz39_8, hcz39_9, hcz39_10, hcz39_11, hcz39_12, hcz39_13⟩ := cellsK14 BK351.out
        obtain ⟨hfz39_0, hfz39_1, hfz39_2, hfz39_3, hfz39_4, hfz39_5, hfz39_6, hfz39_7, hfz39_8, hfz39_9, hfz39_10, hfz39_11, hfz39_12, hfz39_13⟩ := frozK14 BK351.out
        go_wp2_with (first | ((with_reducible refine gate_callee (f := 10) rfl ?_); refine goesL_ (some 46) rfl rfl Tryz.func10 (by kernel_rfl) rfl #[.agg #[.int .i64 t312, .int .i64 t313, .int .i64 t314, .int .i64 t315, .int .i64 t316, .int .i64 t317, .bool t318, .int .i64 t319, .int .i64 t320, .slice Ao21 t321.length co21, .int .i64 t324, .int .i64 t325, .int .i64 t326, .slice Ao22 t327.length co22], .agg #[.int .i64 t332, .int .i64 t333, .int .i64 t334, .int .i64 t335, .int .i64 t336, .int .i64 t337, .bool t338, .int .i64 t339, .int .i64 t340, .slice Ao27 t341.length co27, .int .i64 t344, .int .i64 t345, .int .i64 t346, .slice Ao28 t347.length co28]] rfl (by (try simp only [List.map_toArray, List.map_cons, List.map_nil]); first | done | rfl | (simp only [List.length_drop, List.length_take]; rfl)) ?_; (with_reducible refine (drumlineref1_Same.calls kj1 t312 t313 t314 t315 t316 t317 t318 t319 t320 _ _ t321 t324 t325 t326 _ _ t327 t332 t333 t334 t335 t336 t337 t338 t339 t340 _ _ t341 t344 t345 t346 _ _ t347 true _ ?side1 ?side2 ?side3 ?side4 ?side5 ?side6 ?side7 ?side8 A31.out).mono ?_); (case side1 => repeat (first | exact (Kd.R_reads' HO323.out).2.2 | (with_reducible refine Kd.C_alloc ?_ _) | (with_reducible refine Kd.C_drewN ?_ _) | (with_reducible refine Kd.C_drew ?_))); (case side2 => exact (Kd.R_reads' HO323.out).2.1); (case side3 => repeat (first | exact (Kd.R_reads' HO329.out).2.2 | (with_reducible refine Kd.C_alloc ?_ _) | (with_reducible refine Kd.C_drewN ?_ _) | (with_reducible refine Kd.C_drew ?_))); (case side4 => exact (Kd.R_reads' HO329.out).2.1); (case side5 => repeat (first | exact (Kd.R_reads' HO343.out).2.2 | (with_reducible refine Kd.C_alloc ?_ _) | (with_reducible refine Kd.C_drewN ?_ _) | (with_reducible refine Kd.C_drew ?_))); (case side6 => exact (Kd.R_reads' HO343.out).2.1); (case side7 => repeat (first | exact (Kd.R_reads' HO349.out).2.2 | (with_reducible refine Kd.C_alloc ?_ _) | (with_reducible refine Kd.C_drewN ?_ _) | (with_reducible refine Kd.C_drew ?_))); (case side8 => exact (Kd.R_reads' HO349.out).2.1); rintro e w40 ⟨rfl, hb⟩; refine ⟨_, rfl, ?_⟩; have n0_ := Aside0.mk (Kd.R_below (by (with_reducible repeat (first | apply Kd.R_alloc | apply Kd.R_drewN | apply Kd.R_drew)); exact HO311.out) hb); have n1_ := Aside0.mk (Kd.R_below (by (with_reducible repeat (first | apply Kd.R_alloc | apply Kd.R_drewN | apply Kd.R_drew)); exact HO323.out) hb); have n2_ := Aside0.mk (Kd.R_below (by (with_reducible repeat (first | apply Kd.R_alloc | apply Kd.R_drewN | apply Kd.R_drew)); exact HO329.out) hb); have n3_ := Aside0.mk (Kd.R_below (by (with_reducible repeat (first | apply Kd.R_alloc | apply Kd.R_drewN | apply Kd.R_drew)); exact HO343.out) hb); have n4_ := Aside0.mk (Kd.R_below (by (with_reducible repeat (first | apply Kd.R_alloc | apply Kd.R_drewN | apply Kd.R_drew)); exact HO349.out) hb); have n5_ := Aside0.mk (blk_below (g := gb331) (o := .cells #[.int .i64 t312, .int .i64 t313, .int .i64 t314, .int .i64 t315, .int .i64 t316, .int .i64 t317, .bool t318, .int .i64 t319, .int .i64 t320, .slice Ao21 t321.length co21, .int .i64 t324, .int .i64 t325, .int .i64 t326, .slice Ao22 t327.length co22] 26 (0, 0)) (by (with_reducible repeat (first | refine blk_drewN ?_ _ | refine blk_drew ?_ | refine blk_alloc ?_ _)); exact BK331.out) hb); have n6_ := Aside0.mk (blk_below (g := gb351) (o := .cells #[.int .i64 t332, .int .i64 t333, .int .i64 t334, .int .i64 t335, .int .i64 t336, .int .i64 t337, .bool t338, .int .i64 t339, .int .i64 t340, .slice Ao27 t341.length co27, .int .i64 t344, .int .i64 t345, .int .i64 t346, .slice Ao28 t347.length co28] 26 (0, 0)) (by (with_reducible repeat (first | refine blk_drewN ?_ _ | refine blk_drew ?_ | refine blk_alloc ?_ _)); exact BK351.out) hb); have n7_ := Aside0.mk (below_step (by repeat (first | (with_reducible first | exact HB.out | apply below_alloc | apply pw_below_drewN | apply below_drew1 | refine below_set ?_ GE331.out | refine below_set ?_ GE351.out) | exact HB.out)) hb); clear HO311; clear HO323; clear HO329; clear HO343; clear HO349; clear BK331; clear BK351; clear HB; have HO311 := n0_; have HO323 := n1_; have HO329 := n2_; have HO343 := n3_; have HO349 := n4_; have BK331 := n5_; have BK351 := n6_; have HB := n7_; clear n0_ n1_ n2_ n3_ n4_ n5_ n6_ n7_; (try clear hb); (try clear hb2); (try clear hk); (try clear hi)) | (go_at_call 11; (with_reducible refine (drumlinelaw4_num.calls t330 t357 _ A33.out).mono ?_); rintro e w' ⟨rfl, ⟨nd, rfl⟩⟩) | (go_at_call 11; (with_reducible refine (drumlinelaw4_num.calls t352 t358 _ A35.out).mono ?_); rintro e w' ⟨rfl, ⟨nd, rfl⟩⟩))
        go_meet
        case rel => exact ⟨_, ((t353 != t355)), (by first | rfl | (simp; done) | (simp [*]; done)), H', ⟨by have := HJ1.out; first | omega | exact Nat.le_refl _⟩, ⟨by (with_reducible repeat (first | apply Kd.R_alloc | apply Kd.R_drewN | apply Kd.R_drew)); exact Kd.R_mono HO311.out (fun _ hk => ⟨hk.1.2, hk.2⟩)⟩, ⟨by (with_reducible repeat (first | apply Kd.R_alloc | apply Kd.R_drewN | apply Kd.R_drew)); exact Kd.R_mono HO323.out (fun _ hk => hk.2)⟩, ⟨by (with_reducible repeat (first | apply Kd.R_alloc | apply Kd.R_drewN | apply Kd.R_drew)); exact Kd.R_mono HO329.out (fun _ hk => ⟨hk.1.2, hk.2⟩)⟩, ⟨by (with_reducible repeat (first | apply Kd.R_alloc | apply Kd.R_drewN | apply Kd.R_drew)); exact Kd.R_mono HO343.out (fun _ hk => hk.2)⟩, ⟨by (with_reducible repeat (first | apply Kd.R_alloc | apply Kd.R_drewN | apply Kd.R_drew)); exact Kd.R_mono HO349.out (fun _ hk => ⟨hk.1.2, hk.2⟩)⟩, ⟨by (with_reducible repeat (first | refine blk_drewN ?_ _ | refine blk_drew ?_ | refine blk_alloc ?_ _)); exact BK331.out⟩, ⟨by (with_reducible repeat (first | refine blk_drewN ?_ _ | refine blk_drew ?_ | refine blk_alloc ?_ _)); exact BK351.out⟩, ⟨by repeat (first | (with_reducible first | exact HB.out | apply below_alloc | apply pw_below_drewN | apply below_drew1 | refine below_set ?_ GE331.out | refine below_set ?_ GE351.out) | exact HB.out)⟩⟩
       ·rw [if_neg c36] at H
        have c36b0 : (t358 == t354) = false := beq_eq_false_iff_ne.mpr c36
        have c36b1 : (t358 != t354) = true := bne_iff_ne.mpr c36
        have H' := Aside0.mk H
        clear H
        have hnb41 := NB331_351.out
        have hnc41 := NB351_331.out
        obtain ⟨hcz42_0, hcz42_1, hcz42_2, hcz42_3, hcz42_4, hcz42_5, hcz42_6, hcz42_7, hcz42_8, hcz42_9, hcz42_10, hcz42_11, hcz42_12, hcz42_13⟩ := cellsK14 BK331.out
        obtain ⟨hfz42_0, hfz42_1, hfz42_2, hfz42_3, hfz42_4, hfz42_5, hfz42_6, hfz42_7, hfz42_8, hfz42_9, hfz42_10, hfz42_11, hfz42_12, hfz42_13⟩ := frozK14 BK331.out
        obtain ⟨hcz43_0, hcz43_1, hcz43_2, hcz43_3, hcz43_4, hcz43_5, hcz43_6, hcz43_7, hcz43_8, hcz43_9, hcz43_10, hcz43_11, hcz43_12, hcz43_13⟩ := cellsK14 BK351.out
        obtain ⟨hfz43_0, hfz43_1, hfz43_2, hfz43_3, hfz43_4, hfz43_5, hfz43_6, hfz43_7, hfz43_8, hfz43_9, hfz43_10, hfz43_11, hfz43_12, hfz43_13⟩ := frozK14 BK351.out
        go_wp2_with (first | ((with_reducible refine gate_callee (f := 10) rfl ?_); refine goesL_ (some 46) rfl rfl Tryz.func10 (by kernel_rfl) rfl #[.agg #[.int .i64 t312, .int .i64 t313, .int .i64 t314, .int .i64 t315, .int .i64 t316, .int .i64 t317, .bool t318, .int .i64 t319, .int .i64 t320, .slice Ao21 t321.length co21, .int .i64 t324, .int .i64 t325, .int .i64 t326, .slice Ao22 t327.length co22], .agg #[.int .i64 t332, .int .i64 t333, .int .i64 t334, .int .i64 t335, .int .i64 t336, .int .i64 t337, .bool t338, .int .i64 t339, .int .i64 t340, .slice Ao27 t341.length co27, .int .i64 t344, .int .i64 t345, .int .i64 t346, .slice Ao28 t347.length co28]] rfl (by (try simp only [List.map_toArray, List.map_cons, List.map_nil]); first | done | rfl | (simp only [List.length_drop, List.length_take]; rfl)) ?_; (with_reducible refine (drumlineref1_Same.calls kj1 t312 t313 t314 t315 t316 t317 t318 t319 t320 _ _ t321 t324 t325 t326 _ _ t327 t332 t333 t334 t335 t336 t337 t338 t339 t340 _ _ t341 t344 t345 t346 _ _ t347 true _ ?side1 ?side2 ?side3 ?side4 ?side5 ?side6 ?side7 ?side8 A31.out).mono ?_); (case side1 => repeat (first | exact (Kd.R_reads' HO323.out).2.2 | (with_reducible refine Kd.C_alloc ?_ _) | (with_reducible refine Kd.C_drewN ?_ _) | (with_reducible refine Kd.C_drew ?_))); (case side2 => exact (Kd.R_reads' HO323.out).2.1); (case side3 => repeat (first | exact (Kd.R_reads' HO329.out).2.2 | (with_reducible refine Kd.C_alloc ?_ _) | (with_reducible refine Kd.C_drewN ?_ _) | (with_reducible refine Kd.C_drew ?_))); (case side4 => exact (Kd.R_reads' HO329.out).2.1); (case side5 => repeat (first | exact (Kd.R_reads' HO343.out).2.2 | (with_reducible refine Kd.C_alloc ?_ _) | (with_reducible refine Kd.C_drewN ?_ _) | (with_reducible refine Kd.C_drew ?_))); (case side6 => exact (Kd.R_reads' HO343.out).2.1); (case side7 => repeat (first | exact (Kd.R_reads' HO349.out).2.2 | (with_reducible refine Kd.C_alloc ?_ _) | (with_reducible refine Kd.C_drewN ?_ _) | (with_reducible refine Kd.C_drew ?_))); (case side8 => exact (Kd.R_reads' HO349.out).2.1); rintro e w44 ⟨rfl, hb⟩; refine ⟨_, rfl, ?_⟩; have n0_ := Aside0.mk (Kd.R_below (by (with_reducible repeat (first | apply Kd.R_alloc | apply Kd.R_drewN | apply Kd.R_drew)); exact HO311.out) hb); have n1_ := Aside0.mk (Kd.R_below (by (with_reducible repeat (first | apply Kd.R_alloc | apply Kd.R_drewN | apply Kd.R_drew)); exact HO323.out) hb); have n2_ := Aside0.mk (Kd.R_below (by (with_reducible repeat (first | apply Kd.R_alloc | apply Kd.R_drewN | apply Kd.R_drew)); exact HO329.out) hb); have n3_ := Aside0.mk (Kd.R_below (by (with_reducible repeat (first | apply Kd.R_alloc | apply Kd.R_drewN | apply Kd.R_drew)); exact HO343.out) hb); have n4_ := Aside0.mk (Kd.R_below (by (with_reducible repeat (first | apply Kd.R_alloc | apply Kd.R_drewN | apply Kd.R_drew)); exact HO349.out) hb); have n5_ := Aside0.mk (blk_below (g := gb331) (o := .cells #[.int .i64 t312, .int .i64 t313, .int .i64 t314, .int .i64 t315, .int .i64 t316, .int .i64 t317, .bool t318, .int .i64 t319, .int .i64 t320, .slice Ao21 t321.length co21, .int .i64 t324, .int .i64 t325, .int .i64 t326, .slice Ao22 t327.length co22] 26 (0, 0)) (by (with_reducible repeat (first | refine blk_drewN ?_ _ | refine blk_drew ?_ | refine blk_alloc ?_ _)); exact BK331.out) hb); have n6_ := Aside0.mk (blk_below (g := gb351) (o := .cells #[.int .i64 t332, .int .i64 t333, .int .i64 t334, .int .i64 t335, .int .i64 t336, .int .i64 t337, .bool t338, .int .i64 t339, .int .i64 t340, .slice Ao27 t341.length co27, .int .i64 t344, .int .i64 t345, .int .i64 t346, .slice Ao28 t347.length co28] 26 (0, 0)) (by (with_reducible repeat (first | refine blk_drewN ?_ _ | refine blk_drew ?_ | refine blk_alloc ?_ _)); exact BK351.out) hb); have n7_ := Aside0.mk (below_step (by repeat (first | (with_reducible first | exact HB.out | apply below_alloc | apply pw_below_drewN | apply below_drew1 | refine below_set ?_ GE331.out | refine below_set ?_ GE351.out) | exact HB.out)) hb); clear HO311; clear HO323; clear HO329; clear HO343; clear HO349; clear BK331; clear BK351; clear HB; have HO311 := n0_; have HO323 := n1_; have HO329 := n2_; have HO343 := n3_; have HO349 := n4_; have BK331 := n5_; have BK351 := n6_; have HB := n7_; clear n0_ n1_ n2_ n3_ n4_ n5_ n6_ n7_; (try clear hb); (try clear hb2); (try clear hk); (try clear hi)) | (go_at_call 11; (with_reducible refine (drumlinelaw4_num.calls t330 t357 _ A33.out).mono ?_); rintro e w' ⟨rfl, ⟨nd, rfl⟩⟩) | (go_at_call 11; (with_reducible refine (drumlinelaw4_num.calls t352 t358 _ A35.out).mono ?_); rintro e w' ⟨rfl, ⟨nd, rfl⟩⟩))
        go_meet
        case rel => exact ⟨_, (true), (by first | rfl | (simp; done) | (simp [*]; done)), H', ⟨by have := HJ1.out; first | omega | exact Nat.le_refl _⟩, ⟨by (with_reducible repeat (first | apply Kd.R_alloc | apply Kd.R_drewN | apply Kd.R_drew)); exact Kd.R_mono HO311.out (fun _ hk => ⟨hk.1.2, hk.2⟩)⟩, ⟨by (with_reducible repeat (first | apply Kd.R_alloc | apply Kd.R_drewN | apply Kd.R_drew)); exact Kd.R_mono HO323.out (fun _ hk => hk.2)⟩, ⟨by (with_reducible repeat (first | apply Kd.R_alloc | apply Kd.R_drewN | apply Kd.R_drew)); exact Kd.R_mono HO329.out (fun _ hk => ⟨hk.1.2, hk.2⟩)⟩, ⟨by (with_reducible repeat (first | apply Kd.R_alloc | apply Kd.R_drewN | apply Kd.R_drew)); exact Kd.R_mono HO343.out (fun _ hk => hk.2)⟩, ⟨by (with_reducible repeat (first | apply Kd.R_alloc | apply Kd.R_drewN | apply Kd.R_drew)); exact Kd.R_mono HO349.out (fun _ hk => ⟨hk.1.2, hk.2⟩)⟩, ⟨by (with_reducible repeat (first | refine blk_drewN ?_ _ | refine blk_drew ?_ | refine blk_alloc ?_ _)); exact BK331.out⟩, ⟨by (with_reducible repeat (first | refine blk_drewN ?_ _ | refine blk_drew ?_ | refine blk_alloc ?_ _)); exact BK351.out⟩, ⟨by repeat (first | (with_reducible first | exact HB.out | apply below_alloc | apply pw_below_drewN | apply below_drew1 | refine below_set ?_ GE331.out | refine below_set ?_ GE351.out) | exact HB.out)⟩⟩
      ·rw [if_neg c34] at H
       have c34b0 : (t357 == t350) = false := beq_eq_false_iff_ne.mpr c34
       have c34b1 : (t357 != t350) = true := bne_iff_ne.mpr c34
       (first | rw [c34b0] | (simp only [i64_w, i32_w]; rw [c34b0]) | skip)
       have H' := Aside0.mk H
       clear H
       have hnb45 := NB331_351.out
       have hnc45 := NB351_331.out
       obtain ⟨hcz46_0, hcz46_1, hcz46_2, hcz46_3, hcz46_4, hcz46_5, hcz46_6, hcz46_7, hcz46_8, hcz46_9, hcz46_10, hcz46_11, hcz46_12, hcz46_13⟩ := cellsK14 BK331.out
       obtain ⟨hfz46_0, hfz46_1, hfz46_2, hfz46_3, hfz46_4, hfz46_5, hfz46_6, hfz46_7, hfz46_8, hfz46_9, hfz46_10, hfz46_11, hfz46_12, hfz46_13⟩ := frozK14 BK331.out
       obtain ⟨hcz47_0, hcz47_1, hcz47_2, hcz47_3, hcz47_4, hcz47_5, hcz47_6, hcz47_7, hcz47_8, hcz47_9, hcz47_10, hcz47_11, hcz47_12, hcz47_13⟩ := cellsK14 BK351.out
       obtain ⟨hfz47_0, hfz47_1, hfz47_2, hfz47_3, hfz47_4, hfz47_5, hfz47_6, hfz47_7, hfz47_8, hfz47_9, hfz47_10, hfz47_11, hfz47_12, hfz47_13⟩ := frozK14 BK351.out
       go_wp2_with (first | ((with_reducible refine gate_callee (f := 10) rfl ?_); refine goesL_ (some 46) rfl rfl Tryz.func10 (by kernel_rfl) rfl #[.agg #[.int .i64 t312, .int .i64 t313, .int .i64 t314, .int .i64 t315, .int .i64 t316, .int .i64 t317, .bool t318, .int .i64 t319, .int .i64 t320, .slice Ao21 t321.length co21, .int .i64 t324, .int .i64 t325, .int .i64 t326, .slice Ao22 t327.length co22], .agg #[.int .i64 t332, .int .i64 t333, .int .i64 t334, .int .i64 t335, .int .i64 t336, .int .i64 t337, .bool t338, .int .i64 t339, .int .i64 t340, .slice Ao27 t341.length co27, .int .i64 t344, .int .i64 t345, .int .i64 t346, .slice Ao28 t347.length co28]] rfl (by (try simp only [List.map_toArray, List.map_cons, List.map_nil]); first | done | rfl | (simp only [List.length_drop, List.length_take]; rfl)) ?_; (with_reducible refine (drumlineref1_Same.calls kj1 t312 t313 t314 t315 t316 t317 t318 t319 t320 _ _ t321 t324 t325 t326 _ _ t327 t332 t333 t334 t335 t336 t337 t338 t339 t340 _ _ t341 t344 t345 t346 _ _ t347 true _ ?side1 ?side2 ?side3 ?side4 ?side5 ?side6 ?side7 ?side8 A31.out).mono ?_); (case side1 => repeat (first | exact (Kd.R_reads' HO323.out).2.2 | (with_reducible refine Kd.C_alloc ?_ _) | (with_reducible refine Kd.C_drewN ?_ _) | (with_reducible refine Kd.C_drew ?_))); (case side2 => exact (Kd.R_reads' HO323.out).2.1); (case side3 => repeat (first | exact (Kd.R_reads' HO329.out).2.2 | (with_reducible refine Kd.C_alloc ?_ _) | (with_reducible refine Kd.C_drewN ?_ _) | (with_reducible refine Kd.C_drew ?_))); (case side4 => exact (Kd.R_reads' HO329.out).2.1); (case side5 => repeat (first | exact (Kd.R_reads' HO343.out).2.2 | (with_reducible refine Kd.C_alloc ?_ _) | (with_reducible refine Kd.C_drewN ?_ _) | (with_reducible refine Kd.C_drew ?_))); (case side6 => exact (Kd.R_reads' HO343.out).2.1); (case side7 => repeat (first | exact (Kd.R_reads' HO349.out).2.2 | (with_reducible refine Kd.C_alloc ?_ _) | (with_reducible refine Kd.C_drewN ?_ _) | (with_reducible refine Kd.C_drew ?_))); (case side8 => exact (Kd.R_reads' HO349.out).2.1); rintro e w48 ⟨rfl, hb⟩; refine ⟨_, rfl, ?_⟩; have n0_ := Aside0.mk (Kd.R_below (by (with_reducible repeat (first | apply Kd.R_alloc | apply Kd.R_drewN | apply Kd.R_drew)); exact HO311.out) hb); have n1_ := Aside0.mk (Kd.R_below (by (with_reducible repeat (first | apply Kd.R_alloc | apply Kd.R_drewN | apply Kd.R_drew)); exact HO323.out) hb); have n2_ := Aside0.mk (Kd.R_below (by (with_reducible repeat (first | apply Kd.R_alloc | apply Kd.R_drewN | apply Kd.R_drew)); exact HO329.out) hb); have n3_ := Aside0.mk (Kd.R_below (by (with_reducible repeat (first | apply Kd.R_alloc | apply Kd.R_drewN | apply Kd.R_drew)); exact HO343.out) hb); have n4_ := Aside0.mk (Kd.R_below (by (with_reducible repeat (first | apply Kd.R_alloc | apply Kd.R_drewN | apply Kd.R_drew)); exact HO349.out) hb); have n5_ := Aside0.mk (blk_below (g := gb331) (o := .cells #[.int .i64 t312, .int .i64 t313, .int .i64 t314, .int .i64 t315, .int .i64 t316, .int .i64 t317, .bool t318, .int .i64 t319, .int .i64 t320, .slice Ao21 t321.length co21, .int .i64 t324, .int .i64 t325, .int .i64 t326, .slice Ao22 t327.length co22] 26 (0, 0)) (by (with_reducible repeat (first | refine blk_drewN ?_ _ | refine blk_drew ?_ | refine blk_alloc ?_ _)); exact BK331.out) hb); have n6_ := Aside0.mk (blk_below (g := gb351) (o := .cells #[.int .i64 t332, .int .i64 t333, .int .i64 t334, .int .i64 t335, .int .i64 t336, .int .i64 t337, .bool t338, .int .i64 t339, .int .i64 t340, .slice Ao27 t341.length co27, .int .i64 t344, .int .i64 t345, .int .i64 t346, .slice Ao28 t347.length co28] 26 (0, 0)) (by (with_reducible repeat (first | refine blk_drewN ?_ _ | refine blk_drew ?_ | refine blk_alloc ?_ _)); exact BK351.out) hb); have n7_ := Aside0.mk (below_step (by repeat (first | (with_reducible first | exact HB.out | apply below_alloc | apply pw_below_drewN | apply below_drew1 | refine below_set ?_ GE331.out | refine below_set ?_ GE351.out) | exact HB.out)) hb); clear HO311; clear HO323; clear HO329; clear HO343; clear HO349; clear BK331; clear BK351; clear HB; have HO311 := n0_; have HO323 := n1_; have HO329 := n2_; have HO343 := n3_; have HO349 := n4_; have BK331 := n5_; have BK351 := n6_; have HB := n7_; clear n0_ n1_ n2_ n3_ n4_ n5_ n6_ n7_; (try clear hb); (try clear hb2); (try clear hk); (try clear hi)) | (go_at_call 11; (with_reducible refine (drumlinelaw4_num.calls t330 t357 _ A33.out).mono ?_); rintro e w' ⟨rfl, ⟨nd, rfl⟩⟩))
       go_meet
       case rel => exact ⟨_, (true), (by first | rfl | (simp; done) | (simp [*]; done)), H', ⟨by have := HJ1.out; first | omega | exact Nat.le_refl _⟩, ⟨by (with_reducible repeat (first | apply Kd.R_alloc | apply Kd.R_drewN | apply Kd.R_drew)); exact Kd.R_mono HO311.out (fun _ hk => ⟨hk.1.2, hk.2⟩)⟩, ⟨by (with_reducible repeat (first | apply Kd.R_alloc | apply Kd.R_drewN | apply Kd.R_drew)); exact Kd.R_mono HO323.out (fun _ hk => hk.2)⟩, ⟨by (with_reducible repeat (first | apply Kd.R_alloc | apply Kd.R_drewN | apply Kd.R_drew)); exact Kd.R_mono HO329.out (fun _ hk => ⟨hk.1.2, hk.2⟩)⟩, ⟨by (with_reducible repeat (first | apply Kd.R_alloc | apply Kd.R_drewN | apply Kd.R_drew)); exact Kd.R_mono HO343.out (fun _ hk => hk.2)⟩, ⟨by (with_reducible repeat (first | apply Kd.R_alloc | apply Kd.R_drewN | apply Kd.R_drew)); exact Kd.R_mono HO349.out (fun _ hk => ⟨hk.1.2, hk.2⟩)⟩, ⟨by (with_reducible repeat (first | refine blk_drewN ?_ _ | refine blk_drew ?_ | refine blk_alloc ?_ _)); exact BK331.out⟩, ⟨by (with_reducible repeat (first | refine blk_drewN ?_ _ | refine blk_drew ?_ | refine blk_alloc ?_ _)); exact BK351.out⟩, ⟨by repeat (first | (with_reducible first | exact HB.out | apply below_alloc | apply pw_below_drewN | apply below_drew1 | refine below_set ?_ GE331.out | refine below_set ?_ GE351.out) | exact HB.out)⟩⟩
     ·replace c32 := Bool.eq_false_iff.mpr c32
      subst c32
      have H1 : (drumlinelaw4_FrameSealed.j1 kj1 t309 t330 true t312 t313 t314 t315 t316 t317 t318 t319 t320 t321 t324 t325 t326 t327) = some r := by rw [if_neg (show ¬ (false = true) by decide)] at H; exact H
      clear H
      have H := H1
      clear H1
      have H' := Aside0.mk H
      clear H
      have hnb49 := NB331_351.out
      have hnc49 := NB351_331.out
      obtain ⟨hcz50_0, hcz50_1, hcz50_2, hcz50_3, hcz50_4, hcz50_5, hcz50_6, hcz50_7, hcz50_8, hcz50_9, hcz50_10, hcz50_11, hcz50_12, hcz50_13⟩ := cellsK14 BK331.out
      obtain ⟨hfz50_0, hfz50_1, hfz50_2, hfz50_3, hfz50_4, hfz50_5, hfz50_6, hfz50_7, hfz50_8, hfz50_9, hfz50_10, hfz50_11, hfz50_12, hfz50_13⟩ := frozK14 BK331.out
      obtain ⟨hcz51_0, hcz51_1, hcz51_2, hcz51_3, hcz51_4, hcz51_5, hcz51_6, hcz51_7, hcz51_8, hcz51_9, hcz51_10, hcz51_11, hcz51_12, hcz51_13⟩ := cellsK14 BK351.out
      obtain ⟨hfz51_0, hfz51_1, hfz51_2, hfz51_3, hfz51_4, hfz51_5, hfz51_6, hfz51_7, hfz51_8, hfz51_9, hfz51_10, hfz51_11, hfz51_12, hfz51_13⟩ := frozK14 BK351.out
      go_wp2_with (first | ((with_reducible refine gate_callee (f := 10) rfl ?_); refine goesL_ (some 46) rfl rfl Tryz.func10 (by kernel_rfl) rfl #[.agg #[.int .i64 t312, .int .i64 t313, .int .i64 t314, .int .i64 t315, .int .i64 t316, .int .i64 t317, .bool t318, .int .i64 t319, .int .i64 t320, .slice Ao21 t321.length co21, .int .i64 t324, .int .i64 t325, .int .i64 t326, .slice Ao22 t327.length co22], .agg #[.int .i64 t332, .int .i64 t333, .int .i64 t334, .int .i64 t335, .int .i64 t336, .int .i64 t337, .bool t338, .int .i64 t339, .int .i64 t340, .slice Ao27 t341.length co27, .int .i64 t344, .int .i64 t345, .int .i64 t346, .slice Ao28 t347.length co28]] rfl (by (try simp only [List.map_toArray, List.map_cons, List.map_nil]); first | done | rfl | (simp only [List.length_drop, List.length_take]; rfl)) ?_; (with_reducible refine (drumlineref1_Same.calls kj1 t312 t313 t314 t315 t316 t317 t318 t319 t320 _ _ t321 t324 t325 t326 _ _ t327 t332 t333 t334 t335 t336 t337 t338 t339 t340 _ _ t341 t344 t345 t346 _ _ t347 false _ ?side1 ?side2 ?side3 ?side4 ?side5 ?side6 ?side7 ?side8 A31.out).mono ?_); (case side1 => repeat (first | exact (Kd.R_reads' HO323.out).2.2 | (with_reducible refine Kd.C_alloc ?_ _) | (with_reducible refine Kd.C_drewN ?_ _) | (with_reducible refine Kd.C_drew ?_))); (case side2 => exact (Kd.R_reads' HO323.out).2.1); (case side3 => repeat (first | exact (Kd.R_reads' HO329.out).2.2 | (with_reducible refine Kd.C_alloc ?_ _) | (with_reducible refine Kd.C_drewN ?_ _) | (with_reducible refine Kd.C_drew ?_))); (case side4 => exact (Kd.R_reads' HO329.out).2.1); (case side5 => repeat (first | exact (Kd.R_reads' HO343.out).2.2 | (with_reducible refine Kd.C_alloc ?_ _) | (with_reducible refine Kd.C_drewN ?_ _) | (with_reducible refine Kd.C_drew ?_))); (case side6 => exact (Kd.R_reads' HO343.out).2.1); (case side7 => repeat (first | exact (Kd.R_reads' HO349.out).2.2 | (with_reducible refine Kd.C_alloc ?_ _) | (with_reducible refine Kd.C_drewN ?_ _) | (with_reducible refine Kd.C_drew ?_))); (case side8 => exact (Kd.R_reads' HO349.out).2.1); rintro e w52 ⟨rfl, hb⟩; refine ⟨_, rfl, ?_⟩; have n0_ := Aside0.mk (Kd.R_below (by (with_reducible repeat (first | apply Kd.R_alloc | apply Kd.R_drewN | apply Kd.R_drew)); exact HO311.out) hb); have n1_ := Aside0.mk (Kd.R_below (by (with_reducible repeat (first | apply Kd.R_alloc | apply Kd.R_drewN | apply Kd.R_drew)); exact HO323.out) hb); have n2_ := Aside0.mk (Kd.R_below (by (with_reducible repeat (first | apply Kd.R_alloc | apply Kd.R_drewN | apply Kd.R_drew)); exact HO329.out) hb); have n3_ := Aside0.mk (Kd.R_below (by (with_reducible repeat (first | apply Kd.R_alloc | apply Kd.R_drewN | apply Kd.R_drew)); exact HO343.out) hb); have n4_ := Aside0.mk (Kd.R_below (by (with_reducible repeat (first | apply Kd.R_alloc | apply Kd.R_drewN | apply Kd.R_drew)); exact HO349.out) hb); have n5_ := Aside0.mk (blk_below (g := gb331) (o := .cells #[.int .i64 t312, .int .i64 t313, .int .i64 t314, .int .i64 t315, .int .i64 t316, .int .i64 t317, .bool t318, .int .i64 t319, .int .i64 t320, .slice Ao21 t321.length co21, .int .i64 t324, .int .i64 t325, .int .i64 t326, .slice Ao22 t327.length co22] 26 (0, 0)) (by (with_reducible repeat (first | refine blk_drewN ?_ _ | refine blk_drew ?_ | refine blk_alloc ?_ _)); exact BK331.out) hb); have n6_ := Aside0.mk (blk_below (g := gb351) (o := .cells #[.int .i64 t332, .int .i64 t333, .int .i64 t334, .int .i64 t335, .int .i64 t336, .int .i64 t337, .bool t338, .int .i64 t339, .int .i64 t340, .slice Ao27 t341.length co27, .int .i64 t344, .int .i64 t345, .int .i64 t346, .slice Ao28 t347.length co28] 26 (0, 0)) (by (with_reducible repeat (first | refine blk_drewN ?_ _ | refine blk_drew ?_ | refine blk_alloc ?_ _)); exact BK351.out) hb); have n7_ := Aside0.mk (below_step (by repeat (first | (with_reducible first | exact HB.out | apply below_alloc | apply pw_below_drewN | apply below_drew1 | refine below_set ?_ GE331.out | refine below_set ?_ GE351.out) | exact HB.out)) hb); clear HO311; clear HO323; clear HO329; clear HO343; clear HO349; clear BK331; clear BK351; clear HB; have HO311 := n0_; have HO323 := n1_; have HO329 := n2_; have HO343 := n3_; have HO349 := n4_; have BK331 := n5_; have BK351 := n6_; have HB := n7_; clear n0_ n1_ n2_ n3_ n4_ n5_ n6_ n7_; (try clear hb); (try clear hb2); (try clear hk); (try clear hi)))
      go_meet
      case rel => exact ⟨_, (true), (by first | rfl | (simp; done) | (simp [*]; done)), H', ⟨by have := HJ1.out; first | omega | exact Nat.le_refl _⟩, ⟨by (with_reducible repeat (first | apply Kd.R_alloc | apply Kd.R_drewN | apply Kd.R_drew)); exact Kd.R_mono HO311.out (fun _ hk => ⟨hk.1.2, hk.2⟩)⟩, ⟨by (with_reducible repeat (first | apply Kd.R_alloc | apply Kd.R_drewN | apply Kd.R_drew)); exact Kd.R_mono HO323.out (fun _ hk => hk.2)⟩, ⟨by (with_reducible repeat (first | apply Kd.R_alloc | apply Kd.R_drewN | apply Kd.R_drew)); exact Kd.R_mono HO329.out (fun _ hk => ⟨hk.1.2, hk.2⟩)⟩, ⟨by (with_reducible repeat (first | apply Kd.R_alloc | apply Kd.R_drewN | apply Kd.R_drew)); exact Kd.R_mono HO343.out (fun _ hk => hk.2)⟩, ⟨by (with_reducible repeat (first | apply Kd.R_alloc | apply Kd.R_drewN | apply Kd.R_drew)); exact Kd.R_mono HO349.out (fun _ hk => ⟨hk.1.2, hk.2⟩)⟩, ⟨by (with_reducible repeat (first | refine blk_drewN ?_ _ | refine blk_drew ?_ | refine blk_alloc ?_ _)); exact BK331.out⟩, ⟨by (with_reducible repeat (first | refine blk_drewN ?_ _ | refine blk_drew ?_ | refine blk_alloc ?_ _)); exact BK351.out⟩, ⟨by repeat (first | (with_reducible first | exact HB.out | apply below_alloc | apply pw_below_drewN | apply below_drew1 | refine below_set ?_ GE331.out | refine below_set ?_ GE351.out) | exact HB.out)⟩⟩
    case rest =>
     clear HC15
     try clear c1
     try clear c2
     try clear p2
     try clear c3
     try clear c4
     try clear c5
     try clear c6
     try clear c7
     try clear c8
     try clear c9
     try clear c10
     try clear c12
     try clear c25
     try clear c32
     try clear c34
     try clear c34b0
     try clear c34b1
     try clear c36
     try clear c36b0
     try clear c36b1
     try clear c37
     try clear c41
     try clear c45
     try clear c49
     try clear hcz20_0
     try clear hcz20_1
     try clear hcz20_10
     try clear hcz20_11
     try clear hcz20_12
     try clear hcz20_13
     try clear hcz20_2
     try clear hcz20_3
     try clear hcz20_4
     try clear hcz20_5
     try clear hcz20_6
     try clear hcz20_7
     try clear hcz20_8
     try clear hcz20_9
     try clear hcz26_0
     try clear hcz26_1
     try clear hcz26_10
     try clear hcz26_11
     try clear hcz26_12
     try clear hcz26_13
     try clear hcz26_2
     try clear hcz26_3
     try clear hcz26_4
     try clear hcz26_5
     try clear hcz26_6
     try clear hcz26_7
     try clear hcz26_8
     try clear hcz26_9
     try clear hcz38_0
     try clear hcz38_1
     try clear hcz38_10
     try clear hcz38_11
     try clear hcz38_12
     try clear hcz38_13
     try clear hcz38_2
     try clear hcz38_3
     try clear hcz38_4
     try clear hcz38_5
     try clear hcz38_6
     try clear hcz38_7
     try clear hcz38_8
     try clear hcz38_9
     try clear hcz39_0
     try clear hcz39_1
     try clear hcz39_10
     try clear hcz39_11
     try clear hcz39_12
     try clear hcz39_13
     try clear hcz39_2
     try clear hcz39_3
     try clear hcz39_4
     try clear hcz39_5
     try clear hcz39_6
     try clear hcz39_7
     try clear hcz39_8
     try clear hcz39_9
     try clear hcz42_0
     try clear hcz42_1
     try clear hcz42_10
     try clear hcz42_11
     try clear hcz42_12
     try clear hcz42_13
     try clear hcz42_2
     try clear hcz42_3
     try clear hcz42_4
     try clear hcz42_5
     try clear hcz42_6
     try clear hcz42_7
     try clear hcz42_8
     try clear hcz42_9
     try clear hcz43_0
     try clear hcz43_1
     try clear hcz43_10
     try clear hcz43_11
     try clear hcz43_12
     try clear hcz43_13
     try clear hcz43_2
     try clear hcz43_3
     try clear hcz43_4
     try clear hcz43_5
     try clear hcz43_6
     try clear hcz43_7
     try clear hcz43_8
     try clear hcz43_9
     try clear hcz46_0
     try clear hcz46_1
     try clear hcz46_10
     try clear hcz46_11
     try clear hcz46_12
     try clear hcz46_13
     try clear hcz46_2
     try clear hcz46_3
     try clear hcz46_4
     try clear hcz46_5
     try clear hcz46_6
     try clear hcz46_7
     try clear hcz46_8
     try clear hcz46_9
     try clear hcz47_0
     try clear hcz47_1
     try clear hcz47_10
     try clear hcz47_11
     try clear hcz47_12
     try clear hcz47_13
     try clear hcz47_2
     try clear hcz47_3
     try clear hcz47_4
     try clear hcz47_5
     try clear hcz47_6
     try clear hcz47_7
     try clear hcz47_8
     try clear hcz47_9
     try clear hcz50_0
     try clear hcz50_1
     try clear hcz50_10
     try clear hcz50_11
     try clear hcz50_12
     try clear hcz50_13
     try clear hcz50_2
     try clear hcz50_3
     try clear hcz50_4
     try clear hcz50_5
     try clear hcz50_6
     try clear hcz50_7
     try clear hcz50_8
     try clear hcz50_9
     try clear hcz51_0
     try clear hcz51_1
     try clear hcz51_10
     try clear hcz51_11
     try clear hcz51_12
     try clear hcz51_13
     try clear hcz51_2
     try clear hcz51_3
     try clear hcz51_4
     try clear hcz51_5
     try clear hcz51_6
     try clear hcz51_7
     try clear hcz51_8
     try clear hcz51_9
     try clear hfz20_0
     try clear hfz20_1
     try clear hfz20_10
     try clear hfz20_11
     try clear hfz20_12
     try clear hfz20_13
     try clear hfz20_2
     try clear hfz20_3
     try clear hfz20_4
     try clear hfz20_5
     try clear hfz20_6
     try clear hfz20_7
     try clear hfz20_8
     try clear hfz20_9
     try clear hfz26_0
     try clear hfz26_1
     try clear hfz26_10
     try clear hfz26_11
     try clear hfz26_12
     try clear hfz26_13
     try clear hfz26_2
     try clear hfz26_3
     try clear hfz26_4
     try clear hfz26_5
     try clear hfz26_6
     try clear hfz26_7
     try clear hfz26_8
     try clear hfz26_9
     try clear hfz38_0
     try clear hfz38_1
     try clear hfz38_10
     try clear hfz38_11
     try clear hfz38_12
     try clear hfz38_13
     try clear hfz38_2
     try clear hfz38_3
     try clear hfz38_4
     try clear hfz38_5
     try clear hfz38_6
     try clear hfz38_7
     try clear hfz38_8
     try clear hfz38_9
     try clear hfz39_0
     try clear hfz39_1
     try clear hfz39_10
     try clear hfz39_11
     try clear hfz39_12
     try clear hfz39_13
     try clear hfz39_2
     try clear hfz39_3
     try clear hfz39_4
     try clear hfz39_5
     try clear hfz39_6
     try clear hfz39_7
     try clear hfz39_8
     try clear hfz39_9
     try clear hfz42_0
     try clear hfz42_1
     try clear hfz42_10
     try clear hfz42_11
     try clear hfz42_12
     try clear hfz42_13
     try clear hfz42_2
     try clear hfz42_3
     try clear hfz42_4
     try clear hfz42_5
     try clear hfz42_6
     try clear hfz42_7
     try clear hfz42_8
     try clear hfz42_9
     try clear hfz43_0
     try clear hfz43_1
     try clear hfz43_10
     try clear hfz43_11
     try clear hfz43_12
     try clear hfz43_13
     try clear hfz43_2
     try clear hfz43_3
     try clear hfz43_4
     try clear hfz43_5
     try clear hfz43_6
     try clear hfz43_7
     try clear hfz43_8
     try clear hfz43_9
     try clear hfz46_0
     try clear hfz46_1
     try clear hfz46_10
     try clear hfz46_11
     try clear hfz46_12
     try clear hfz46_13
     try clear hfz46_2
     try clear hfz46_3
     try clear hfz46_4
     try clear hfz46_5
     try clear hfz46_6
     try clear hfz46_7
     try clear hfz46_8
     try clear hfz46_9
     try clear hfz47_0
     try clear hfz47_1
     try clear hfz47_10
     try clear hfz47_11
     try clear hfz47_12
     try clear hfz47_13
     try clear hfz47_2
     try clear hfz47_3
     try clear hfz47_4
     try clear hfz47_5
     try clear hfz47_6
     try clear hfz47_7
     try clear hfz47_8
     try clear hfz47_9
     try clear hfz50_0
     try clear hfz50_1
     try clear hfz50_10
     try clear hfz50_11
     try clear hfz50_12
     try clear hfz50_13
     try clear hfz50_2
     try clear hfz50_3
     try clear hfz50_4
     try clear hfz50_5
     try clear hfz50_6
     try clear hfz50_7
     try clear hfz50_8
     try clear hfz50_9
     try clear hfz51_0
     try clear hfz51_1
     try clear hfz51_10
     try clear hfz51_11
     try clear hfz51_12
     try clear hfz51_13
     try clear hfz51_2
     try clear hfz51_3
     try clear hfz51_4
     try clear hfz51_5
     try clear hfz51_6
     try clear hfz51_7
     try clear hfz51_8
     try clear hfz51_9
     try clear p2
     obtain ⟨kq, x64_14, rfl, HA, HJ14, HO_3, HO_332009, HO_332013, HO_352009, HO_352013, BK331, BK351, HB⟩ := hcut
     cases kq with
     | zero => exact absurd HA.out (by simp [drumlinelaw4_FrameSealed.j1])
     | succ kj14 =>
      have H := HA.out
      clear HA
      simp only [drumlinelaw4_FrameSealed.j1] at H
      by_cases c53 : x64_14 = true
      ·subst c53
       have H1 : (none) = some r := by rw [if_pos rfl] at H; exact H
       exact absurd H1 (by simp)
      ·replace c53 := Bool.eq_false_iff.mpr c53
       subst c53
       have H1 : (if t330 = 0 then ((frame_Encode.f kj14 t312 t313 t314 t315 t316 t317 t318 t319 t320 t321 t324 t325 t326 t327).bind fun bt359 => (if bt359.2 = 0 then (some ((strOfNums bt359.1).toList == (strOfNums t309).toList)) else (none))) else (some true)) = some r := by rw [if_neg (show ¬ (false = true) by decide)] at H; exact H
       clear H
       have H := H1
       clear H1
       by_cases c54 : t330 = 0
       ·rw [if_pos c54] at H
        have c54b0 : (t330 == 0) = true := beq_iff_eq.mpr c54
        have c54b1 : (t330 != 0) = false := bne_eq_false_iff_eq.mpr c54
        clear c54
        replace H := Option.bind_eq_some_iff.mp H
        obtain ⟨⟨t359, t362⟩, A550, H⟩ := H
        replace H : (if t362 = 0 then (some ((strOfNums t359).toList == (strOfNums t309).toList)) else (none)) = some r := H
        have A55 := Aside0.mk A550
        clear A550
        by_cases c56 : t362 = 0
        ·rw [if_pos c56] at H
         have c56b0 : (t362 == 0) = true := beq_iff_eq.mpr c56
         have c56b1 : (t362 != 0) = false := bne_eq_false_iff_eq.mpr c56
         clear c56
         obtain rfl := Option.some.inj H
         have hnb57 := NB331_351.out
         have hnc57 := NB351_331.out
         obtain ⟨hcz58_0, hcz58_1, hcz58_2, hcz58_3, hcz58_4, hcz58_5, hcz58_6, hcz58_7, hcz58_8, hcz58_9, hcz58_10, hcz58_11, hcz58_12, hcz58_13⟩ := cellsK14 BK331.out
         obtain ⟨hfz58_0, hfz58_1, hfz58_2, hfz58_3, hfz58_4, hfz58_5, hfz58_6, hfz58_7, hfz58_8, hfz58_9, hfz58_10, hfz58_11, hfz58_12, hfz58_13⟩ := frozK14 BK331.out
         go_wp2_with (first | ((with_reducible refine gate_callee (f := 13) rfl ?_); refine goesL_ (some 69) rfl rfl Tryz.func13 (by kernel_rfl) rfl #[.agg #[.int .i64 t312, .int .i64 t313, .int .i64 t314, .int .i64 t315, .int .i64 t316, .int .i64 t317, .bool t318, .int .i64 t319, .int .i64 t320, .slice Ao21 t321.length co21, .int .i64 t324, .int .i64 t325, .int .i64 t326, .slice Ao22 t327.length co22]] rfl (by (try simp only [List.map_toArray, List.map_cons, List.map_nil]); first | done | rfl | (simp only [List.length_drop, List.length_take]; rfl)) ?_; (with_reducible refine (frame_Encode.calls kj14 t312 t313 t314 t315 t316 t317 t318 t319 t320 _ _ t321 t324 t325 t326 _ _ t327 t359 t362 _ ?side1 ?side2 ?side3 ?side4 A55.out).mono ?_); (case side1 => repeat (first | exact (Kd.R_reads' HO_332009.out).2.2 | (with_reducible refine Kd.C_alloc ?_ _) | (with_reducible refine Kd.C_drewN ?_ _) | (with_reducible refine Kd.C_drew ?_))); (case side2 => exact (Kd.R_reads' HO_332009.out).2.1); (case side3 => repeat (first | exact (Kd.R_reads' HO_332013.out).2.2 | (with_reducible refine Kd.C_alloc ?_ _) | (with_reducible refine Kd.C_drewN ?_ _) | (with_reducible refine Kd.C_drew ?_))); (case side4 => exact (Kd.R_reads' HO_332013.out).2.1); rintro e w59 ⟨v360, rfl, ho0, hb⟩; refine ⟨_, rfl, ?_⟩; have n0_ := Aside0.mk (Kd.R_elder' (by (with_reducible repeat (first | apply Kd.R_alloc | apply Kd.R_drewN | apply Kd.R_drew)); exact HO_3.out) (Kd.R_base ho0) hb); have n1_ := Aside0.mk (Kd.R_below (by (with_reducible repeat (first | apply Kd.R_alloc | apply Kd.R_drewN | apply Kd.R_drew)); exact HO_332009.out) hb); have n2_ := Aside0.mk (Kd.R_elder' (by (with_reducible repeat (first | apply Kd.R_alloc | apply Kd.R_drewN | apply Kd.R_drew)); exact HO_332013.out) (Kd.R_base ho0) hb); have n3_ := Aside0.mk (Kd.R_below (by (with_reducible repeat (first | apply Kd.R_alloc | apply Kd.R_drewN | apply Kd.R_drew)); exact HO_352009.out) hb); have n4_ := Aside0.mk (Kd.R_elder' (by (with_reducible repeat (first | apply Kd.R_alloc | apply Kd.R_drewN | apply Kd.R_drew)); exact HO_352013.out) (Kd.R_base ho0) hb); have n5_ := Aside0.mk (Kd.R_lower (Kd.R_new' (Kd.R_new' (Kd.R_new' ho0 (Kd.R_lt (by (with_reducible repeat (first | apply Kd.R_alloc | apply Kd.R_drewN | apply Kd.R_drew)); exact HO_3.out))) (Kd.R_lt (by (with_reducible repeat (first | apply Kd.R_alloc | apply Kd.R_drewN | apply Kd.R_drew)); exact HO_332013.out))) (Kd.R_lt (by (with_reducible repeat (first | apply Kd.R_alloc | apply Kd.R_drewN | apply Kd.R_drew)); exact HO_352013.out))) (below_size (by repeat (first | (with_reducible first | exact HB.out | apply below_alloc | apply pw_below_drewN | apply below_drew1 | refine below_set ?_ GE331.out | refine below_set ?_ GE351.out) | exact HB.out)))); have n6_ := Aside0.mk (blk_below (g := gb331) (o := .cells #[.int .i64 t312, .int .i64 t313, .int .i64 t314, .int .i64 t315, .int .i64 t316, .int .i64 t317, .bool t318, .int .i64 t319, .int .i64 t320, .slice Ao21 t321.length co21, .int .i64 t324, .int .i64 t325, .int .i64 t326, .slice Ao22 t327.length co22] 26 (0, 0)) (by (with_reducible repeat (first | refine blk_drewN ?_ _ | refine blk_drew ?_ | refine blk_alloc ?_ _)); exact BK331.out) hb); have n7_ := Aside0.mk (blk_below (g := gb351) (o := .cells #[.int .i64 t332, .int .i64 t333, .int .i64 t334, .int .i64 t335, .int .i64 t336, .int .i64 t337, .bool t338, .int .i64 t339, .int .i64 t340, .slice Ao27 t341.length co27, .int .i64 t344, .int .i64 t345, .int .i64 t346, .slice Ao28 t347.length co28] 26 (0, 0)) (by (with_reducible repeat (first | refine blk_drewN ?_ _ | refine blk_drew ?_ | refine blk_alloc ?_ _)); exact BK351.out) hb); have n8_ := Aside0.mk (below_step (by repeat (first | (with_reducible first | exact HB.out | apply below_alloc | apply pw_below_drewN | apply below_drew1 | refine below_set ?_ GE331.out | refine below_set ?_ GE351.out) | exact HB.out)) hb); clear HO_3; clear HO_332009; clear HO_332013; clear HO_352009; clear HO_352013; clear BK331; clear BK351; clear HB; have HO_3 := n0_; have HO_332009 := n1_; have HO_332013 := n2_; have HO_352009 := n3_; have HO_352013 := n4_; have HO361 := n5_; have BK331 := n6_; have BK351 := n7_; have HB := n8_; clear n0_ n1_ n2_ n3_ n4_ n5_ n6_ n7_ n8_; (try clear hb); (try clear hb2); (try clear hk); (try clear hi); (try clear ho0); have hcv60 := own_string (P := Tryz.prog) Tryz.underlying22 Tryz.underlying5 Tryz.underlying9 (Kd.own_of_R HO361.out); have hcq61 := fun n_ => own_string (P := Tryz.prog) Tryz.underlying22 Tryz.underlying5 Tryz.underlying9 (Kd.own_of_R (Kd.R_drewN HO361.out n_)); have hcv62 := own_string (P := Tryz.prog) Tryz.underlying22 Tryz.underlying5 Tryz.underlying9 (Kd.own_of_R HO_3.out); have hcq63 := fun n_ => own_string (P := Tryz.prog) Tryz.underlying22 Tryz.underlying5 Tryz.underlying9 (Kd.own_of_R (Kd.R_drewN HO_3.out n_))))
         go_ret
         exact ⟨by first | rfl | (simp [errW_none, errW_some] <;> rfl) | (simp [*, errW_none, errW_some] <;> rfl), by repeat (first | (with_reducible first | exact HB.out | apply below_alloc | apply pw_below_drewN | apply below_drew1 | refine below_set ?_ GE331.out | refine below_set ?_ GE351.out) | exact HB.out)⟩
        ·rw [if_neg c56] at H
         exact absurd H (by simp)
       ·rw [if_neg c54] at H
        have c54b0 : (t330 == 0) = false := beq_eq_false_iff_ne.mpr c54
        have c54b1 : (t330 != 0) = true := bne_iff_ne.mpr c54
        obtain rfl := Option.some.inj H
        go_wp2
        go_ret
        exact ⟨by first | rfl | (simp [errW_none, errW_some] <;> rfl) | (simp [*, errW_none, errW_some] <;> rfl), by repeat (first | (with_reducible first | exact HB.out | apply below_alloc | apply pw_below_drewN | apply below_drew1 | refine below_set ?_ GE331.out | refine below_set ?_ GE351.out) | exact HB.out)⟩
end Go.Proofs.YtaaifdclojkdmaaGreatDoor.MFr
