-- PRINTED BY print.sh 35421559b90ae4d0a3588c463048766b98c2df88dd9212a6774a882060cdf62d: not written by this session
import Derived.Test.YthkagdbabkkomaaPAgesRootx0
import Derived.Test.YthkagdbabkkomaaPAgesRootx1
namespace Go.Proofs.Ythkagdbabkkomaa.PAgesRoot
open Go.RowKit Go.Proofs.YthkagdbabkkomaaW.PrintWords Go.Proofs.YthkagdbabkkomaaW.PrintLast Go.Proofs.YthkagdbabkkomaaW.PrintMore
attribute [local go_sem] max2_int min2_int max_two min_two max_three min_three max_four min_four   -- for this text's walks alone
set_option linter.unusedVariables false
set_option linter.unusedSimpArgs false

/-! ### drumlinelaw15_AgesRoot: function 5 -/
def drumlinelaw15_AgesRoot.j0 : Nat → List Int → Int → List (List Int) → Int → Bool → Option (Bool)
  | 0, _, _, _, _, _ => none
  | k + 1, x0, x1, x2, x9, x34 => if x34 = true then ((drumlinelaw15_alive.f k).bind fun t138 => (some t138)) else (if (x0.length : Int) = 0 then (none) else ((ages_Next.f k x0 (Int.tmod (wrap64 (x1)) (x0.length : Int)) x2 x9).bind fun t139 => ((ages_Alive.f k t139 x9).bind fun t142 => ((ages_Root.f k t139 x9).bind fun t143 => (if 0 ≤ (IntKind.u64.wrap (Int.tmod (wrap64 (x1)) (x0.length : Int))) then (if (Go.bits .and .i64 (shr .i64 t142 (IntKind.u64.wrap (Int.tmod (wrap64 (x1)) (x0.length : Int)))) 1) = 1 then (if t143 ≥ 0 then (if t143 ≤ (Int.tmod (wrap64 (x1)) (x0.length : Int)) then (if 0 ≤ (IntKind.u64.wrap (t143)) then (if (Go.bits .and .i64 (shr .i64 t142 (IntKind.u64.wrap (t143))) 1) = 1 then (some ((Go.bits .and .i64 t142 (wrap64 ((shl .i64 1 (IntKind.u64.wrap (t143))) - 1))) == 0)) else (some false)) else (none)) else (some false)) else (some false)) else (some false)) else (none))))))
def drumlinelaw15_AgesRoot.f (k : Nat) (l0 : List Int) (a1 : Int) (l2 : List (List Int)) (a3 : Int) : Option (Bool) := (drumlinelaw15_alive.f k).bind fun t136 => (if t136 = true then (if (l0.length : Int) = 0 then (drumlinelaw15_AgesRoot.j0 k l0 a1 l2 (wrap64 (1 + (Int.tmod (wrap64 (a3)) 200))) true) else (if (l0.length : Int) > 6 then (drumlinelaw15_AgesRoot.j0 k l0 a1 l2 (wrap64 (1 + (Int.tmod (wrap64 (a3)) 200))) true) else ((drumlinelaw15_small.f k l2).bind fun t137 => (drumlinelaw15_AgesRoot.j0 k l0 a1 l2 (wrap64 (1 + (Int.tmod (wrap64 (a3)) 200))) (!t137))))) else (drumlinelaw15_AgesRoot.j0 k l0 a1 l2 (wrap64 (1 + (Int.tmod (wrap64 (a3)) 200))) true))
theorem drumlinelaw15_AgesRoot.mono_l : ∀ k, (∀ y0 y1 y2 y3 y4, LeO (drumlinelaw15_AgesRoot.j0 k y0 y1 y2 y3 y4) (drumlinelaw15_AgesRoot.j0 (k + 1) y0 y1 y2 y3 y4))
  | 0 => fun _ _ _ _ _ r h => by simp [drumlinelaw15_AgesRoot.j0] at h
  | k + 1 => by
    have ih0 := drumlinelaw15_AgesRoot.mono_l k
    · intro y0 y1 y2 y3 y4
      unfold drumlinelaw15_AgesRoot.j0
      repeat' first
      | (with_reducible exact ih0 _ _ _ _ _)
      | (with_reducible exact ages_Alive.mono _ _ _)
      | (with_reducible exact ages_Next.mono _ _ _ _ _)
      | (with_reducible exact ages_Root.mono _ _ _)
      | (with_reducible exact drumlinelaw15_alive.mono _)
      | (with_reducible exact drumlinelaw15_small.mono _ _)
      | (with_reducible exact LeO.refl _)
      | (with_reducible exact LeO.none _)
      | (with_reducible refine LeO.ite ?_ ?_)
      | (with_reducible refine LeO.bind ?_ (fun _ => ?_))
      | exact ih0 _ _ _ _ _
      | exact ages_Alive.mono _ _ _
      | exact ages_Next.mono _ _ _ _ _
      | exact ages_Root.mono _ _ _
      | exact drumlinelaw15_alive.mono _
      | exact drumlinelaw15_small.mono _ _
      | exact LeO.none _
      | refine LeO.ite ?_ ?_
      | refine LeO.bind ?_ (fun _ => ?_)
theorem drumlinelaw15_AgesRoot.mono : ∀ a0 a1 a2 a3 k, LeO (drumlinelaw15_AgesRoot.f k a0 a1 a2 a3) (drumlinelaw15_AgesRoot.f (k + 1) a0 a1 a2 a3) := by
  intro a0 a1 a2 a3 k
  have ih0 := drumlinelaw15_AgesRoot.mono_l k
  unfold drumlinelaw15_AgesRoot.f
  repeat' first
      | (with_reducible exact ih0 _ _ _ _ _)
      | (with_reducible exact ages_Alive.mono _ _ _)
      | (with_reducible exact ages_Next.mono _ _ _ _ _)
      | (with_reducible exact ages_Root.mono _ _ _)
      | (with_reducible exact drumlinelaw15_alive.mono _)
      | (with_reducible exact drumlinelaw15_small.mono _ _)
      | (with_reducible exact LeO.refl _)
      | (with_reducible exact LeO.none _)
      | (with_reducible refine LeO.ite ?_ ?_)
      | (with_reducible refine LeO.bind ?_ (fun _ => ?_))
      | exact ih0 _ _ _ _ _
      | exact ages_Alive.mono _ _ _
      | exact ages_Next.mono _ _ _ _ _
      | exact ages_Root.mono _ _ _
      | exact drumlinelaw15_alive.mono _
      | exact drumlinelaw15_small.mono _ _
      | exact LeO.none _
      | refine LeO.ite ?_ ?_
      | refine LeO.bind ?_ (fun _ => ?_)
set_option maxHeartbeats 8000000 in
set_option maxRecDepth 100000 in
theorem drumlinelaw15_AgesRoot.calls (k : Nat) (A0 : Option Addr) (c0 : Nat) (l0 : List Int) (a1 : Int) (A2 : Option Addr) (c2 : Nat) (l2 : List (List Int)) (a3 : Int) (r : Bool) (w : World) (hr0 : Kd.C (Kd.int .i64) w A0 l0.length l0) (hc0 : l0.length ≤ c0) (hr2 : Kd.C (Kd.slice 3 (Kd.int .i64)) w A2 l2.length l2) (hc2 : l2.length ≤ c2) (h : drumlinelaw15_AgesRoot.f k l0 a1 l2 a3 = some r) :
    Calls Try.prog 5 #[.slice A0 l0.length c0, .int .u8 a1, .slice A2 l2.length c2, .int .u8 a3] w fun e w' => e = .returned (.bool r) ∧ Below w.heap.size w w' := by
  have HR0 := Aside0.mk hr0
  have HC0 := Aside0.mk hc0
  clear hr0 hc0
  have HR2 := Aside0.mk hr2
  have HC2 := Aside0.mk hc2
  clear hr2 hc2
  have HB := Aside0.mk (Below.refl w.heap.size w)
  have H : ((drumlinelaw15_alive.f k).bind fun t136 => (if t136 = true then (if (l0.length : Int) = 0 then (drumlinelaw15_AgesRoot.j0 k l0 a1 l2 (wrap64 (1 + (Int.tmod (wrap64 (a3)) 200))) true) else (if (l0.length : Int) > 6 then (drumlinelaw15_AgesRoot.j0 k l0 a1 l2 (wrap64 (1 + (Int.tmod (wrap64 (a3)) 200))) true) else ((drumlinelaw15_small.f k l2).bind fun t137 => (drumlinelaw15_AgesRoot.j0 k l0 a1 l2 (wrap64 (1 + (Int.tmod (wrap64 (a3)) 200))) (!t137))))) else (drumlinelaw15_AgesRoot.j0 k l0 a1 l2 (wrap64 (1 + (Int.tmod (wrap64 (a3)) 200))) true))) = some r := h
  clear h
  have HC5 := Aside0.mk H
  clear H
  go_enter Try.func5, Try.ntmps5
  go_upto_region 2 with (fail)
  go_cut [34] (fun v34 wc => ∃ (kq : Nat) (x34_4 : Bool), v34 = .bool x34_4 ∧ Aside0 (drumlinelaw15_AgesRoot.j0 kq l0 a1 l2 (wrap64 (1 + (Int.tmod (wrap64 (a3)) 200))) x34_4 = some r) ∧ Aside0 (kq ≤ k) ∧ Aside0 (Below w.heap.size w wc))
  case first =>
    have H := HC5.out
    clear HC5
    replace H := Option.bind_eq_some_iff.mp H
    obtain ⟨t136, A60, H⟩ := H
    replace H : (if t136 = true then (if (l0.length : Int) = 0 then (drumlinelaw15_AgesRoot.j0 k l0 a1 l2 (wrap64 (1 + (Int.tmod (wrap64 (a3)) 200))) true) else (if (l0.length : Int) > 6 then (drumlinelaw15_AgesRoot.j0 k l0 a1 l2 (wrap64 (1 + (Int.tmod (wrap64 (a3)) 200))) true) else ((drumlinelaw15_small.f k l2).bind fun t137 => (drumlinelaw15_AgesRoot.j0 k l0 a1 l2 (wrap64 (1 + (Int.tmod (wrap64 (a3)) 200))) (!t137))))) else (drumlinelaw15_AgesRoot.j0 k l0 a1 l2 (wrap64 (1 + (Int.tmod (wrap64 (a3)) 200))) true)) = some r := H
    have A6 := Aside0.mk A60
    clear A60
    by_cases c7 : t136 = true
    · subst c7
      have H1 : (if (l0.length : Int) = 0 then (drumlinelaw15_AgesRoot.j0 k l0 a1 l2 (wrap64 (1 + (Int.tmod (wrap64 (a3)) 200))) true) else (if (l0.length : Int) > 6 then (drumlinelaw15_AgesRoot.j0 k l0 a1 l2 (wrap64 (1 + (Int.tmod (wrap64 (a3)) 200))) true) else ((drumlinelaw15_small.f k l2).bind fun t137 => (drumlinelaw15_AgesRoot.j0 k l0 a1 l2 (wrap64 (1 + (Int.tmod (wrap64 (a3)) 200))) (!t137))))) = some r := by rw [if_pos rfl] at H; exact H
      clear H
      have H := H1
      clear H1
      by_cases c8 : (l0.length : Int) = 0
      · rw [if_pos c8] at H
        have c8b0 : ((l0.length : Int) == 0) = true := beq_iff_eq.mpr c8
        have c8b1 : ((l0.length : Int) != 0) = false := bne_eq_false_iff_eq.mpr c8
        clear c8
        (first | rw [c8b0] | (simp only [i64_w, i32_w]; rw [c8b0]) | skip)
        have H' := Aside0.mk H
        clear H
        go_wp2_with (first | ((with_reducible refine gate_callee (f := 14) rfl ?_); refine goesL_ (some 18) rfl rfl Try.func14 (by kernel_rfl) rfl #[] rfl (by (try simp only [List.map_toArray, List.map_cons, List.map_nil]); first | done | rfl | (simp only [List.length_drop, List.length_take]; rfl)) ?_; (with_reducible refine (drumlinelaw15_alive.calls k  true _ A6.out).mono ?_); rintro e w9 ⟨rfl, hb⟩; refine ⟨_, rfl, ?_⟩; have n0_ := Aside0.mk (below_step (by repeat (first | (with_reducible first | exact HB.out | apply below_alloc | apply pw_below_drewN | apply below_drew1) | exact HB.out)) hb); clear HB; have HB := n0_; clear n0_; (try clear hb); (try clear hb2); (try clear hk); (try clear hi)))
        go_meet
        case rel => exact ⟨_, (true), (by first | rfl | (simp; done) | (simp [*]; done)), H', ⟨by first | omega | exact Nat.le_refl _⟩, ⟨by repeat (first | (with_reducible first | exact HB.out | apply below_alloc | apply pw_below_drewN | apply below_drew1) | exact HB.out)⟩⟩
      · rw [if_neg c8] at H
        have c8b0 : ((l0.length : Int) == 0) = false := beq_eq_false_iff_ne.mpr c8
        have c8b1 : ((l0.length : Int) != 0) = true := bne_iff_ne.mpr c8
        have c8b2 : ¬ (l0 = []) := fun h_ => c8 (by rw [h_]; rfl)
        (first | rw [c8b0] | (simp only [i64_w, i32_w]; rw [c8b0]) | skip)
        by_cases c10 : (l0.length : Int) > 6
        · rw [if_pos c10] at H
          have c10b0 : decide (6 < (l0.length : Int)) = true := decide_eq_true c10
          have c10b1 : decide (6 < l0.length) = true := decide_eq_true (by omega)
          clear c10
          have H' := Aside0.mk H
          clear H
          go_wp2_with (first | ((with_reducible refine gate_callee (f := 14) rfl ?_); refine goesL_ (some 18) rfl rfl Try.func14 (by kernel_rfl) rfl #[] rfl (by (try simp only [List.map_toArray, List.map_cons, List.map_nil]); first | done | rfl | (simp only [List.length_drop, List.length_take]; rfl)) ?_; (with_reducible refine (drumlinelaw15_alive.calls k  true _ A6.out).mono ?_); rintro e w11 ⟨rfl, hb⟩; refine ⟨_, rfl, ?_⟩; have n0_ := Aside0.mk (below_step (by repeat (first | (with_reducible first | exact HB.out | apply below_alloc | apply pw_below_drewN | apply below_drew1) | exact HB.out)) hb); clear HB; have HB := n0_; clear n0_; (try clear hb); (try clear hb2); (try clear hk); (try clear hi)))
          go_meet
          case rel => exact ⟨_, (true), (by first | rfl | (simp; done) | (simp [*]; done)), H', ⟨by first | omega | exact Nat.le_refl _⟩, ⟨by repeat (first | (with_reducible first | exact HB.out | apply below_alloc | apply pw_below_drewN | apply below_drew1) | exact HB.out)⟩⟩
        · rw [if_neg c10] at H
          have c10b0 : decide (6 < (l0.length : Int)) = false := decide_eq_false c10
          have c10b1 : decide (6 < l0.length) = false := decide_eq_false (by omega)
          clear c10
          replace H := Option.bind_eq_some_iff.mp H
          obtain ⟨t137, A120, H⟩ := H
          replace H : (drumlinelaw15_AgesRoot.j0 k l0 a1 l2 (wrap64 (1 + (Int.tmod (wrap64 (a3)) 200))) (!t137)) = some r := H
          have A12 := Aside0.mk A120
          clear A120
          have H' := Aside0.mk H
          clear H
          go_wp2_with (first | ((with_reducible refine gate_callee (f := 14) rfl ?_); refine goesL_ (some 18) rfl rfl Try.func14 (by kernel_rfl) rfl #[] rfl (by (try simp only [List.map_toArray, List.map_cons, List.map_nil]); first | done | rfl | (simp only [List.length_drop, List.length_take]; rfl)) ?_; (with_reducible refine (drumlinelaw15_alive.calls k  true _ A6.out).mono ?_); rintro e w13 ⟨rfl, hb⟩; refine ⟨_, rfl, ?_⟩; have n0_ := Aside0.mk (below_step (by repeat (first | (with_reducible first | exact HB.out | apply below_alloc | apply pw_below_drewN | apply below_drew1) | exact HB.out)) hb); clear HB; have HB := n0_; clear n0_; (try clear hb); (try clear hb2); (try clear hk); (try clear hi)) | (go_at_call 17; (with_reducible refine (drumlinelaw15_small.calls k _ _ l2 t137 _ ?side1 ?side2 A12.out).mono ?_); (case side1 => repeat (first | exact (Kd.C_below HR2.out HB.out) | (with_reducible refine Kd.C_alloc ?_ _) | (with_reducible refine Kd.C_drewN ?_ _) | (with_reducible refine Kd.C_drew ?_))); (case side2 => exact HC2.out); rintro e w' ⟨rfl, ⟨nd, rfl⟩⟩))
          go_meet
          case rel => exact ⟨_, (!t137), (by first | rfl | (simp; done) | (simp [*]; done)), H', ⟨by first | omega | exact Nat.le_refl _⟩, ⟨by repeat (first | (with_reducible first | exact HB.out | apply below_alloc | apply pw_below_drewN | apply below_drew1) | exact HB.out)⟩⟩
    · replace c7 := Bool.eq_false_iff.mpr c7
      subst c7
      have H1 : (drumlinelaw15_AgesRoot.j0 k l0 a1 l2 (wrap64 (1 + (Int.tmod (wrap64 (a3)) 200))) true) = some r := by rw [if_neg (show ¬ (false = true) by decide)] at H; exact H
      clear H
      have H := H1
      clear H1
      have H' := Aside0.mk H
      clear H
      go_wp2_with (first | ((with_reducible refine gate_callee (f := 14) rfl ?_); refine goesL_ (some 18) rfl rfl Try.func14 (by kernel_rfl) rfl #[] rfl (by (try simp only [List.map_toArray, List.map_cons, List.map_nil]); first | done | rfl | (simp only [List.length_drop, List.length_take]; rfl)) ?_; (with_reducible refine (drumlinelaw15_alive.calls k  false _ A6.out).mono ?_); rintro e w14 ⟨rfl, hb⟩; refine ⟨_, rfl, ?_⟩; have n0_ := Aside0.mk (below_step (by repeat (first | (with_reducible first | exact HB.out | apply below_alloc | apply pw_below_drewN | apply below_drew1) | exact HB.out)) hb); clear HB; have HB := n0_; clear n0_; (try clear hb); (try clear hb2); (try clear hk); (try clear hi)))
      go_meet
      case rel => exact ⟨_, (true), (by first | rfl | (simp; done) | (simp [*]; done)), H', ⟨by first | omega | exact Nat.le_refl _⟩, ⟨by repeat (first | (with_reducible first | exact HB.out | apply below_alloc | apply pw_below_drewN | apply below_drew1) | exact HB.out)⟩⟩
  case rest =>
    clear HC5
    try clear c1
    try clear c2
    try clear p2
    try clear c5
    try clear p6
    try clear c7
    try clear c8
    try clear c8b0
    try clear c8b1
    try clear c8b2
    try clear c10
    try clear c10b0
    try clear c10b1
    try clear c14
    obtain ⟨kq, x34_4, rfl, HA, HJ4, HB⟩ := hcut
    cases kq with
    | zero => exact absurd HA.out (by simp [drumlinelaw15_AgesRoot.j0])
    | succ kj4 =>
      have H := HA.out
      clear HA
      simp only [drumlinelaw15_AgesRoot.j0] at H
      by_cases c15 : x34_4 = true
      · subst c15
        have H1 : ((drumlinelaw15_alive.f kj4).bind fun t138 => (some t138)) = some r := by rw [if_pos rfl] at H; exact H
        clear H
        have H := H1
        clear H1
        replace H := Option.bind_eq_some_iff.mp H
        obtain ⟨t138, A160, H⟩ := H
        replace H : (some t138) = some r := H
        have A16 := Aside0.mk A160
        clear A160
        obtain rfl := Option.some.inj H
        go_wp2_with (first | ((with_reducible refine gate_callee (f := 14) rfl ?_); refine goesL_ (some 35) rfl rfl Try.func14 (by kernel_rfl) rfl #[] rfl (by (try simp only [List.map_toArray, List.map_cons, List.map_nil]); first | done | rfl | (simp only [List.length_drop, List.length_take]; rfl)) ?_; (with_reducible refine (drumlinelaw15_alive.calls kj4  t138 _ A16.out).mono ?_); rintro e w17 ⟨rfl, hb⟩; refine ⟨_, rfl, ?_⟩; have n0_ := Aside0.mk (below_step (by repeat (first | (with_reducible first | exact HB.out | apply below_alloc | apply pw_below_drewN | apply below_drew1) | exact HB.out)) hb); clear HB; have HB := n0_; clear n0_; (try clear hb); (try clear hb2); (try clear hk); (try clear hi)))
        go_ret
        exact ⟨by first | rfl | (simp [errW_none, errW_some] <;> rfl) | (simp [*, errW_none, errW_some] <;> rfl), by repeat (first | (with_reducible first | exact HB.out | apply below_alloc | apply pw_below_drewN | apply below_drew1) | exact HB.out)⟩
      · replace c15 := Bool.eq_false_iff.mpr c15
        subst c15
        have H1 : (if (l0.length : Int) = 0 then (none) else ((ages_Next.f kj4 l0 (Int.tmod (wrap64 (a1)) (l0.length : Int)) l2 (wrap64 (1 + (Int.tmod (wrap64 (a3)) 200)))).bind fun t139 => ((ages_Alive.f kj4 t139 (wrap64 (1 + (Int.tmod (wrap64 (a3)) 200)))).bind fun t142 => ((ages_Root.f kj4 t139 (wrap64 (1 + (Int.tmod (wrap64 (a3)) 200)))).bind fun t143 => (if 0 ≤ (IntKind.u64.wrap (Int.tmod (wrap64 (a1)) (l0.length : Int))) then (if (Go.bits .and .i64 (shr .i64 t142 (IntKind.u64.wrap (Int.tmod (wrap64 (a1)) (l0.length : Int)))) 1) = 1 then (if t143 ≥ 0 then (if t143 ≤ (Int.tmod (wrap64 (a1)) (l0.length : Int)) then (if 0 ≤ (IntKind.u64.wrap (t143)) then (if (Go.bits .and .i64 (shr .i64 t142 (IntKind.u64.wrap (t143))) 1) = 1 then (some ((Go.bits .and .i64 t142 (wrap64 ((shl .i64 1 (IntKind.u64.wrap (t143))) - 1))) == 0)) else (some false)) else (none)) else (some false)) else (some false)) else (some false)) else (none)))))) = some r := by rw [if_neg (show ¬ (false = true) by decide)] at H; exact H
        clear H
        have H := H1
        clear H1
        by_cases c18 : (l0.length : Int) = 0
        · rw [if_pos c18] at H
          exact absurd H (by simp)
        · rw [if_neg c18] at H
          have c18b0 : ((l0.length : Int) == 0) = false := beq_eq_false_iff_ne.mpr c18
          have c18b1 : ((l0.length : Int) != 0) = true := bne_iff_ne.mpr c18
          have c18b2 : ¬ (l0 = []) := fun h_ => c18 (by rw [h_]; rfl)
          replace H := Option.bind_eq_some_iff.mp H
          obtain ⟨t139, A190, H⟩ := H
          replace H : ((ages_Alive.f kj4 t139 (wrap64 (1 + (Int.tmod (wrap64 (a3)) 200)))).bind fun t142 => ((ages_Root.f kj4 t139 (wrap64 (1 + (Int.tmod (wrap64 (a3)) 200)))).bind fun t143 => (if 0 ≤ (IntKind.u64.wrap (Int.tmod (wrap64 (a1)) (l0.length : Int))) then (if (Go.bits .and .i64 (shr .i64 t142 (IntKind.u64.wrap (Int.tmod (wrap64 (a1)) (l0.length : Int)))) 1) = 1 then (if t143 ≥ 0 then (if t143 ≤ (Int.tmod (wrap64 (a1)) (l0.length : Int)) then (if 0 ≤ (IntKind.u64.wrap (t143)) then (if (Go.bits .and .i64 (shr .i64 t142 (IntKind.u64.wrap (t143))) 1) = 1 then (some ((Go.bits .and .i64 t142 (wrap64 ((shl .i64 1 (IntKind.u64.wrap (t143))) - 1))) == 0)) else (some false)) else (none)) else (some false)) else (some false)) else (some false)) else (none)))) = some r := H
          have A19 := Aside0.mk A190
          clear A190
          replace H := Option.bind_eq_some_iff.mp H
          obtain ⟨t142, A200, H⟩ := H
          replace H : ((ages_Root.f kj4 t139 (wrap64 (1 + (Int.tmod (wrap64 (a3)) 200)))).bind fun t143 => (if 0 ≤ (IntKind.u64.wrap (Int.tmod (wrap64 (a1)) (l0.length : Int))) then (if (Go.bits .and .i64 (shr .i64 t142 (IntKind.u64.wrap (Int.tmod (wrap64 (a1)) (l0.length : Int)))) 1) = 1 then (if t143 ≥ 0 then (if t143 ≤ (Int.tmod (wrap64 (a1)) (l0.length : Int)) then (if 0 ≤ (IntKind.u64.wrap (t143)) then (if (Go.bits .and .i64 (shr .i64 t142 (IntKind.u64.wrap (t143))) 1) = 1 then (some ((Go.bits .and .i64 t142 (wrap64 ((shl .i64 1 (IntKind.u64.wrap (t143))) - 1))) == 0)) else (some false)) else (none)) else (some false)) else (some false)) else (some false)) else (none))) = some r := H
          have A20 := Aside0.mk A200
          clear A200
          replace H := Option.bind_eq_some_iff.mp H
          obtain ⟨t143, A210, H⟩ := H
          replace H : (if 0 ≤ (IntKind.u64.wrap (Int.tmod (wrap64 (a1)) (l0.length : Int))) then (if (Go.bits .and .i64 (shr .i64 t142 (IntKind.u64.wrap (Int.tmod (wrap64 (a1)) (l0.length : Int)))) 1) = 1 then (if t143 ≥ 0 then (if t143 ≤ (Int.tmod (wrap64 (a1)) (l0.length : Int)) then (if 0 ≤ (IntKind.u64.wrap (t143)) then (if (Go.bits .and .i64 (shr .i64 t142 (IntKind.u64.wrap (t143))) 1) = 1 then (some ((Go.bits .and .i64 t142 (wrap64 ((shl .i64 1 (IntKind.u64.wrap (t143))) - 1))) == 0)) else (some false)) else (none)) else (some false)) else (some false)) else (some false)) else (none)) = some r := H
          have A21 := Aside0.mk A210
          clear A210
          obtain ⟨ji22, hji22⟩ : ∃ j_ : Int, (IntKind.u64.wrap (Int.tmod (wrap64 (a1)) (l0.length : Int))) = j_ := ⟨_, rfl⟩
          replace H : (if 0 ≤ (ji22) then (if (Go.bits .and .i64 (shr .i64 t142 (ji22)) 1) = 1 then (if t143 ≥ 0 then (if t143 ≤ (Int.tmod (wrap64 (a1)) (l0.length : Int)) then (if 0 ≤ (IntKind.u64.wrap (t143)) then (if (Go.bits .and .i64 (shr .i64 t142 (IntKind.u64.wrap (t143))) 1) = 1 then (some ((Go.bits .and .i64 t142 (wrap64 ((shl .i64 1 (IntKind.u64.wrap (t143))) - 1))) == 0)) else (some false)) else (none)) else (some false)) else (some false)) else (some false)) else (none)) = some r := by first | (rw [hji22] at H; exact H) | (simp only [hji22] at H ⊢; exact H)
          (try rw [hji22] at A19)
          (try rw [hji22] at A20)
          (try rw [hji22] at A21)
          by_cases c23 : 0 ≤ (ji22)
          · rw [if_pos c23] at H
            have c23b0 := eq_true c23
            have c23b1 : decide (0 ≤ (ji22)) = true := decide_eq_true c23
            clear c23
            obtain ⟨ji24, hji24⟩ : ∃ j_ : Int, (shr .i64 t142 (ji22)) = j_ := ⟨_, rfl⟩
            replace H : (if (Go.bits .and .i64 (ji24) 1) = 1 then (if t143 ≥ 0 then (if t143 ≤ (Int.tmod (wrap64 (a1)) (l0.length : Int)) then (if 0 ≤ (IntKind.u64.wrap (t143)) then (if (Go.bits .and .i64 (shr .i64 t142 (IntKind.u64.wrap (t143))) 1) = 1 then (some ((Go.bits .and .i64 t142 (wrap64 ((shl .i64 1 (IntKind.u64.wrap (t143))) - 1))) == 0)) else (some false)) else (none)) else (some false)) else (some false)) else (some false)) = some r := by first | (rw [hji24] at H; exact H) | (simp only [hji24] at H ⊢; exact H)
            (try rw [hji24] at A19)
            (try rw [hji24] at A20)
            (try rw [hji24] at A21)
            have hji24_ : (t142 / 2 ^ min (ji22).toNat 64) = ji24 := hji24
            have hji24z : (ji22) ≤ 64 → (t142 / 2 ^ (ji22).toNat) = ji24 := shr_small hji24
            by_cases c25 : (Go.bits .and .i64 (ji24) 1) = 1
            · rw [if_pos c25] at H
              have c25b0 : ((Go.bits .and .i64 (ji24) 1) == 1) = true := beq_iff_eq.mpr c25
              have c25b1 : ((Go.bits .and .i64 (ji24) 1) != 1) = false := bne_eq_false_iff_eq.mpr c25
              clear c25
              by_cases c26 : t143 ≥ 0
              · rw [if_pos c26] at H
                have c26b0 : decide (0 ≤ t143) = true := decide_eq_true c26
                clear c26
                by_cases c27 : t143 ≤ (Int.tmod (wrap64 (a1)) (l0.length : Int))
                · rw [if_pos c27] at H
                  have c27b0 : decide (t143 ≤ (Int.tmod (wrap64 (a1)) (l0.length : Int))) = true := decide_eq_true c27
                  clear c27
                  obtain ⟨ji28, hji28⟩ : ∃ j_ : Int, (IntKind.u64.wrap (t143)) = j_ := ⟨_, rfl⟩
                  replace H : (if 0 ≤ (ji28) then (if (Go.bits .and .i64 (shr .i64 t142 (ji28)) 1) = 1 then (some ((Go.bits .and .i64 t142 (wrap64 ((shl .i64 1 (ji28)) - 1))) == 0)) else (some false)) else (none)) = some r := by first | (rw [hji28] at H; exact H) | (simp only [hji28] at H ⊢; exact H)
                  (try rw [hji28] at A19)
                  (try rw [hji28] at A20)
                  (try rw [hji28] at A21)
                  by_cases c29 : 0 ≤ (ji28)
                  · rw [if_pos c29] at H
                    have c29b0 := eq_true c29
                    have c29b1 : decide (0 ≤ (ji28)) = true := decide_eq_true c29
                    clear c29
                    obtain ⟨ji30, hji30⟩ : ∃ j_ : Int, (shr .i64 t142 (ji28)) = j_ := ⟨_, rfl⟩
                    replace H : (if (Go.bits .and .i64 (ji30) 1) = 1 then (some ((Go.bits .and .i64 t142 (wrap64 ((shl .i64 1 (ji28)) - 1))) == 0)) else (some false)) = some r := by first | (rw [hji30] at H; exact H) | (simp only [hji30] at H ⊢; exact H)
                    (try rw [hji30] at A19)
                    (try rw [hji30] at A20)
                    (try rw [hji30] at A21)
                    have hji30_ : (t142 / 2 ^ min (ji28).toNat 64) = ji30 := hji30
                    have hji30z : (ji28) ≤ 64 → (t142 / 2 ^ (ji28).toNat) = ji30 := shr_small hji30
                    by_cases c31 : (Go.bits .and .i64 (ji30) 1) = 1
                    · rw [if_pos c31] at H
                      have c31b0 : ((Go.bits .and .i64 (ji30) 1) == 1) = true := beq_iff_eq.mpr c31
                      have c31b1 : ((Go.bits .and .i64 (ji30) 1) != 1) = false := bne_eq_false_iff_eq.mpr c31
                      clear c31
                      have c32b0 := eq_true (of_decide_eq_true (by first | (with_reducible assumption) | assumption) : 0 ≤ (ji28))
                      obtain ⟨ji33, hji33⟩ : ∃ j_ : Int, (shl .i64 1 (ji28)) = j_ := ⟨_, rfl⟩
                      replace H : (some ((Go.bits .and .i64 t142 (wrap64 ((ji33) - 1))) == 0)) = some r := by first | (rw [hji33] at H; exact H) | (simp only [hji33] at H ⊢; exact H)
                      (try rw [hji33] at A19)
                      (try rw [hji33] at A20)
                      (try rw [hji33] at A21)
                      have hji33_ : (IntKind.i64.wrap (1 * 2 ^ min (ji28).toNat 64)) = ji33 := hji33
                      have hji33z : (ji28) ≤ 64 → (IntKind.i64.wrap (1 * 2 ^ (ji28).toNat)) = ji33 := shl_small hji33
                      have hji33u : (IntKind.i64.wrap (2 ^ min (ji28).toNat 64)) = ji33 := by have h_ := hji33_; rw [Int.one_mul] at h_; exact h_
                      have hji33v : (ji28) ≤ 64 → (IntKind.i64.wrap (2 ^ (ji28).toNat)) = ji33 := fun hle_ => by have h_ := hji33z hle_; rw [Int.one_mul] at h_; exact h_
                      have hji33y : (wrap64 (1 * 2 ^ min (ji28).toNat 64)) = ji33 := (i64_w _).symm.trans hji33_
                      have hji33x : (ji28) ≤ 64 → (wrap64 (1 * 2 ^ (ji28).toNat)) = ji33 := fun h_ => (i64_w _).symm.trans (hji33z h_)
                      obtain rfl := Option.some.inj H
                      go_wp2_with (first | ((with_reducible refine gate_callee (f := 15) rfl ?_); refine goesL_ (some 45) rfl rfl Try.func15 (by kernel_rfl) rfl #[.slice A0 l0.length c0, .int .i64 (Int.tmod (wrap64 (a1)) (l0.length : Int)), .slice A2 l2.length c2, .int .i64 (wrap64 (1 + (Int.tmod (wrap64 (a3)) 200)))] rfl (by (try simp only [List.map_toArray, List.map_cons, List.map_nil]); first | done | rfl | (simp only [List.length_drop, List.length_take]; rfl)) ?_; (with_reducible refine (ages_Next.calls kj4 _ _ l0 (Int.tmod (wrap64 (a1)) (l0.length : Int)) _ _ l2 (wrap64 (1 + (Int.tmod (wrap64 (a3)) 200))) t139 _ ?side1 ?side2 ?side3 ?side4 A19.out).mono ?_); (case side1 => repeat (first | exact (Kd.C_below HR0.out HB.out) | (with_reducible refine Kd.C_alloc ?_ _) | (with_reducible refine Kd.C_drewN ?_ _) | (with_reducible refine Kd.C_drew ?_))); (case side2 => exact HC0.out); (case side3 => repeat (first | exact (Kd.C_below HR2.out HB.out) | (with_reducible refine Kd.C_alloc ?_ _) | (with_reducible refine Kd.C_drewN ?_ _) | (with_reducible refine Kd.C_drew ?_))); (case side4 => exact HC2.out); rintro e w34 ⟨v140, rfl, ho0, hb⟩; refine ⟨_, rfl, ?_⟩; have n0_ := Aside0.mk (Kd.R_lower ho0 (below_size (by repeat (first | (with_reducible first | exact HB.out | apply below_alloc | apply pw_below_drewN | apply below_drew1) | exact HB.out)))); have n1_ := Aside0.mk (below_step (by repeat (first | (with_reducible first | exact HB.out | apply below_alloc | apply pw_below_drewN | apply below_drew1) | exact HB.out)) hb); clear HB; have HO141 := n0_; have HB := n1_; clear n0_ n1_; (try clear hb); (try clear hb2); (try clear hk); (try clear hi); (try clear ho0); obtain ⟨Ao35, co35, eo35⟩ := Kd.R_slice HO141.out; subst eo35) | ((with_reducible refine gate_callee (f := 16) rfl ?_); refine goesL_ (some 48) rfl rfl Try.func16 (by kernel_rfl) rfl #[.slice Ao35 t139.length co35, .int .i64 (wrap64 (1 + (Int.tmod (wrap64 (a3)) 200)))] rfl (by (try simp only [List.map_toArray, List.map_cons, List.map_nil]); first | done | rfl | (simp only [List.length_drop, List.length_take]; rfl)) ?_; (with_reducible refine (ages_Alive.calls kj4 _ _ t139 (wrap64 (1 + (Int.tmod (wrap64 (a3)) 200))) t142 _ ?side1 ?side2 A20.out).mono ?_); (case side1 => repeat (first | exact (Kd.R_reads' HO141.out).2.2 | (with_reducible refine Kd.C_alloc ?_ _) | (with_reducible refine Kd.C_drewN ?_ _) | (with_reducible refine Kd.C_drew ?_))); (case side2 => exact (Kd.R_reads' HO141.out).2.1); rintro e w36 ⟨rfl, hb⟩; refine ⟨_, rfl, ?_⟩; have n0_ := Aside0.mk (Kd.R_below (by (with_reducible repeat (first | apply Kd.R_alloc | apply Kd.R_drewN | apply Kd.R_drew)); exact HO141.out) hb); have n1_ := Aside0.mk (below_step (by repeat (first | (with_reducible first | exact HB.out | apply below_alloc | apply pw_below_drewN | apply below_drew1) | exact HB.out)) hb); clear HO141; clear HB; have HO141 := n0_; have HB := n1_; clear n0_ n1_; (try clear hb); (try clear hb2); (try clear hk); (try clear hi)) | ((with_reducible refine gate_callee (f := 18) rfl ?_); refine goesL_ (some 51) rfl rfl Try.func18 (by kernel_rfl) rfl #[.slice Ao35 t139.length co35, .int .i64 (wrap64 (1 + (Int.tmod (wrap64 (a3)) 200)))] rfl (by (try simp only [List.map_toArray, List.map_cons, List.map_nil]); first | done | rfl | (simp only [List.length_drop, List.length_take]; rfl)) ?_; (with_reducible refine (ages_Root.calls kj4 _ _ t139 (wrap64 (1 + (Int.tmod (wrap64 (a3)) 200))) t143 _ ?side1 ?side2 A21.out).mono ?_); (case side1 => repeat (first | exact (Kd.R_reads' HO141.out).2.2 | (with_reducible refine Kd.C_alloc ?_ _) | (with_reducible refine Kd.C_drewN ?_ _) | (with_reducible refine Kd.C_drew ?_))); (case side2 => exact (Kd.R_reads' HO141.out).2.1); rintro e w37 ⟨rfl, hb⟩; refine ⟨_, rfl, ?_⟩; have n0_ := Aside0.mk (Kd.R_below (by (with_reducible repeat (first | apply Kd.R_alloc | apply Kd.R_drewN | apply Kd.R_drew)); exact HO141.out) hb); have n1_ := Aside0.mk (below_step (by repeat (first | (with_reducible first | exact HB.out | apply below_alloc | apply pw_below_drewN | apply below_drew1) | exact HB.out)) hb); clear HO141; clear HB; have HO141 := n0_; have HB := n1_; clear n0_ n1_; (try clear hb); (try clear hb2); (try clear hk); (try clear hi)))
                      go_ret
                      exact ⟨by first | rfl | (simp [errW_none, errW_some] <;> rfl) | (simp only [← hji22, ← hji24, ← hji28, ← hji30, ← hji33]; first | rfl | (simp [errW_none, errW_some] <;> rfl)) | (simp [*, errW_none, errW_some] <;> rfl), by repeat (first | (with_reducible first | exact HB.out | apply below_alloc | apply pw_below_drewN | apply below_drew1) | exact HB.out)⟩
                    · rw [if_neg c31] at H
                      have c31b0 : ((Go.bits .and .i64 (ji30) 1) == 1) = false := beq_eq_false_iff_ne.mpr c31
                      have c31b1 : ((Go.bits .and .i64 (ji30) 1) != 1) = true := bne_iff_ne.mpr c31
                      obtain rfl := Option.some.inj H
                      go_wp2_with (first | ((with_reducible refine gate_callee (f := 15) rfl ?_); refine goesL_ (some 45) rfl rfl Try.func15 (by kernel_rfl) rfl #[.slice A0 l0.length c0, .int .i64 (Int.tmod (wrap64 (a1)) (l0.length : Int)), .slice A2 l2.length c2, .int .i64 (wrap64 (1 + (Int.tmod (wrap64 (a3)) 200)))] rfl (by (try simp only [List.map_toArray, List.map_cons, List.map_nil]); first | done | rfl | (simp only [List.length_drop, List.length_take]; rfl)) ?_; (with_reducible refine (ages_Next.calls kj4 _ _ l0 (Int.tmod (wrap64 (a1)) (l0.length : Int)) _ _ l2 (wrap64 (1 + (Int.tmod (wrap64 (a3)) 200))) t139 _ ?side1 ?side2 ?side3 ?side4 A19.out).mono ?_); (case side1 => repeat (first | exact (Kd.C_below HR0.out HB.out) | (with_reducible refine Kd.C_alloc ?_ _) | (with_reducible refine Kd.C_drewN ?_ _) | (with_reducible refine Kd.C_drew ?_))); (case side2 => exact HC0.out); (case side3 => repeat (first | exact (Kd.C_below HR2.out HB.out) | (with_reducible refine Kd.C_alloc ?_ _) | (with_reducible refine Kd.C_drewN ?_ _) | (with_reducible refine Kd.C_drew ?_))); (case side4 => exact HC2.out); rintro e w38 ⟨v140, rfl, ho0, hb⟩; refine ⟨_, rfl, ?_⟩; have n0_ := Aside0.mk (Kd.R_lower ho0 (below_size (by repeat (first | (with_reducible first | exact HB.out | apply below_alloc | apply pw_below_drewN | apply below_drew1) | exact HB.out)))); have n1_ := Aside0.mk (below_step (by repeat (first | (with_reducible first | exact HB.out | apply below_alloc | apply pw_below_drewN | apply below_drew1) | exact HB.out)) hb); clear HB; have HO141 := n0_; have HB := n1_; clear n0_ n1_; (try clear hb); (try clear hb2); (try clear hk); (try clear hi); (try clear ho0); obtain ⟨Ao39, co39, eo39⟩ := Kd.R_slice HO141.out; subst eo39) | ((with_reducible refine gate_callee (f := 16) rfl ?_); refine goesL_ (some 48) rfl rfl Try.func16 (by kernel_rfl) rfl #[.slice Ao39 t139.length co39, .int .i64 (wrap64 (1 + (Int.tmod (wrap64 (a3)) 200)))] rfl (by (try simp only [List.map_toArray, List.map_cons, List.map_nil]); first | done | rfl | (simp only [List.length_drop, List.length_take]; rfl)) ?_; (with_reducible refine (ages_Alive.calls kj4 _ _ t139 (wrap64 (1 + (Int.tmod (wrap64 (a3)) 200))) t142 _ ?side1 ?side2 A20.out).mono ?_); (case side1 => repeat (first | exact (Kd.R_reads' HO141.out).2.2 | (with_reducible refine Kd.C_alloc ?_ _) | (with_reducible refine Kd.C_drewN ?_ _) | (with_reducible refine Kd.C_drew ?_))); (case side2 => exact (Kd.R_reads' HO141.out).2.1); rintro e w40 ⟨rfl, hb⟩; refine ⟨_, rfl, ?_⟩; have n0_ := Aside0.mk (Kd.R_below (by (with_reducible repeat (first | apply Kd.R_alloc | apply Kd.R_drewN | apply Kd.R_drew)); exact HO141.out) hb); have n1_ := Aside0.mk (below_step (by repeat (first | (with_reducible first | exact HB.out | apply below_alloc | apply pw_below_drewN | apply below_drew1) | exact HB.out)) hb); clear HO141; clear HB; have HO141 := n0_; have HB := n1_; clear n0_ n1_; (try clear hb); (try clear hb2); (try clear hk); (try clear hi)) | ((with_reducible refine gate_callee (f := 18) rfl ?_); refine goesL_ (some 51) rfl rfl Try.func18 (by kernel_rfl) rfl #[.slice Ao39 t139.length co39, .int .i64 (wrap64 (1 + (Int.tmod (wrap64 (a3)) 200)))] rfl (by (try simp only [List.map_toArray, List.map_cons, List.map_nil]); first | done | rfl | (simp only [List.length_drop, List.length_take]; rfl)) ?_; (with_reducible refine (ages_Root.calls kj4 _ _ t139 (wrap64 (1 + (Int.tmod (wrap64 (a3)) 200))) t143 _ ?side1 ?side2 A21.out).mono ?_); (case side1 => repeat (first | exact (Kd.R_reads' HO141.out).2.2 | (with_reducible refine Kd.C_alloc ?_ _) | (with_reducible refine Kd.C_drewN ?_ _) | (with_reducible refine Kd.C_drew ?_))); (case side2 => exact (Kd.R_reads' HO141.out).2.1); rintro e w41 ⟨rfl, hb⟩; refine ⟨_, rfl, ?_⟩; have n0_ := Aside0.mk (Kd.R_below (by (with_reducible repeat (first | apply Kd.R_alloc | apply Kd.R_drewN | apply Kd.R_drew)); exact HO141.out) hb); have n1_ := Aside0.mk (below_step (by repeat (first | (with_reducible first | exact HB.out | apply below_alloc | apply pw_below_drewN | apply below_drew1) | exact HB.out)) hb); clear HO141; clear HB; have HO141 := n0_; have HB := n1_; clear n0_ n1_; (try clear hb); (try clear hb2); (try clear hk); (try clear hi)))
                      go_ret
                      exact ⟨by first | rfl | (simp [errW_none, errW_some] <;> rfl) | (simp only [← hji22, ← hji24, ← hji28, ← hji30]; first | rfl | (simp [errW_none, errW_some] <;> rfl)) | (simp [*, errW_none, errW_some] <;> rfl), by repeat (first | (with_reducible first | exact HB.out | apply below_alloc | apply pw_below_drewN | apply below_drew1) | exact HB.out)⟩
                  · rw [if_neg c29] at H
                    exact absurd H (by simp)
                · rw [if_neg c27] at H
                  have c27b0 : decide (t143 ≤ (Int.tmod (wrap64 (a1)) (l0.length : Int))) = false := decide_eq_false c27
                  clear c27
                  obtain rfl := Option.some.inj H
                  go_wp2_with (first | ((with_reducible refine gate_callee (f := 15) rfl ?_); refine goesL_ (some 45) rfl rfl Try.func15 (by kernel_rfl) rfl #[.slice A0 l0.length c0, .int .i64 (Int.tmod (wrap64 (a1)) (l0.length : Int)), .slice A2 l2.length c2, .int .i64 (wrap64 (1 + (Int.tmod (wrap64 (a3)) 200)))] rfl (by (try simp only [List.map_toArray, List.map_cons, List.map_nil]); first | done | rfl | (simp only [List.length_drop, List.length_take]; rfl)) ?_; (with_reducible refine (ages_Next.calls kj4 _ _ l0 (Int.tmod (wrap64 (a1)) (l0.length : Int)) _ _ l2 (wrap64 (1 + (Int.tmod (wrap64 (a3)) 200))) t139 _ ?side1 ?side2 ?side3 ?side4 A19.out).mono ?_); (case side1 => repeat (first | exact (Kd.C_below HR0.out HB.out) | (with_reducible refine Kd.C_alloc ?_ _) | (with_reducible refine Kd.C_drewN ?_ _) | (with_reducible refine Kd.C_drew ?_))); (case side2 => exact HC0.out); (case side3 => repeat (first | exact (Kd.C_below HR2.out HB.out) | (with_reducible refine Kd.C_alloc ?_ _) | (with_reducible refine Kd.C_drewN ?_ _) | (with_reducible refine Kd.C_drew ?_))); (case side4 => exact HC2.out); rintro e w42 ⟨v140, rfl, ho0, hb⟩; refine ⟨_, rfl, ?_⟩; have n0_ := Aside0.mk (Kd.R_lower ho0 (below_size (by repeat (first | (with_reducible first | exact HB.out | apply below_alloc | apply pw_below_drewN | apply below_drew1) | exact HB.out)))); have n1_ := Aside0.mk (below_step (by repeat (first | (with_reducible first | exact HB.out | apply below_alloc | apply pw_below_drewN | apply below_drew1) | exact HB.out)) hb); clear HB; have HO141 := n0_; have HB := n1_; clear n0_ n1_; (try clear hb); (try clear hb2); (try clear hk); (try clear hi); (try clear ho0); obtain ⟨Ao43, co43, eo43⟩ := Kd.R_slice HO141.out; subst eo43) | ((with_reducible refine gate_callee (f := 16) rfl ?_); refine goesL_ (some 48) rfl rfl Try.func16 (by kernel_rfl) rfl #[.slice Ao43 t139.length co43, .int .i64 (wrap64 (1 + (Int.tmod (wrap64 (a3)) 200)))] rfl (by (try simp only [List.map_toArray, List.map_cons, List.map_nil]); first | done | rfl | (simp only [List.length_drop, List.length_take]; rfl)) ?_; (with_reducible refine (ages_Alive.calls kj4 _ _ t139 (wrap64 (1 + (Int.tmod (wrap64 (a3)) 200))) t142 _ ?side1 ?side2 A20.out).mono ?_); (case side1 => repeat (first | exact (Kd.R_reads' HO141.out).2.2 | (with_reducible refine Kd.C_alloc ?_ _) | (with_reducible refine Kd.C_drewN ?_ _) | (with_reducible refine Kd.C_drew ?_))); (case side2 => exact (Kd.R_reads' HO141.out).2.1); rintro e w44 ⟨rfl, hb⟩; refine ⟨_, rfl, ?_⟩; have n0_ := Aside0.mk (Kd.R_below (by (with_reducible repeat (first | apply Kd.R_alloc | apply Kd.R_drewN | apply Kd.R_drew)); exact HO141.out) hb); have n1_ := Aside0.mk (below_step (by repeat (first | (with_reducible first | exact HB.out | apply below_alloc | apply pw_below_drewN | apply below_drew1) | exact HB.out)) hb); clear HO141; clear HB; have HO141 := n0_; have HB := n1_; clear n0_ n1_; (try clear hb); (try clear hb2); (try clear hk); (try clear hi)) | ((with_reducible refine gate_callee (f := 18) rfl ?_); refine goesL_ (some 51) rfl rfl Try.func18 (by kernel_rfl) rfl #[.slice Ao43 t139.length co43, .int .i64 (wrap64 (1 + (Int.tmod (wrap64 (a3)) 200)))] rfl (by (try simp only [List.map_toArray, List.map_cons, List.map_nil]); first | done | rfl | (simp only [List.length_drop, List.length_take]; rfl)) ?_; (with_reducible refine (ages_Root.calls kj4 _ _ t139 (wrap64 (1 + (Int.tmod (wrap64 (a3)) 200))) t143 _ ?side1 ?side2 A21.out).mono ?_); (case side1 => repeat (first | exact (Kd.R_reads' HO141.out).2.2 | (with_reducible refine Kd.C_alloc ?_ _) | (with_reducible refine Kd.C_drewN ?_ _) | (with_reducible refine Kd.C_drew ?_))); (case side2 => exact (Kd.R_reads' HO141.out).2.1); rintro e w45 ⟨rfl, hb⟩; refine ⟨_, rfl, ?_⟩; have n0_ := Aside0.mk (Kd.R_below (by (with_reducible repeat (first | apply Kd.R_alloc | apply Kd.R_drewN | apply Kd.R_drew)); exact HO141.out) hb); have n1_ := Aside0.mk (below_step (by repeat (first | (with_reducible first | exact HB.out | apply below_alloc | apply pw_below_drewN | apply below_drew1) | exact HB.out)) hb); clear HO141; clear HB; have HO141 := n0_; have HB := n1_; clear n0_ n1_; (try clear hb); (try clear hb2); (try clear hk); (try clear hi)))
                  go_ret
                  exact ⟨by first | rfl | (simp [errW_none, errW_some] <;> rfl) | (simp only [← hji22, ← hji24]; first | rfl | (simp [errW_none, errW_some] <;> rfl)) | (simp [*, errW_none, errW_some] <;> rfl), by repeat (first | (with_reducible first | exact HB.out | apply below_alloc | apply pw_below_drewN | apply below_drew1) | exact HB.out)⟩
              · rw [if_neg c26] at H
                have c26b0 : decide (0 ≤ t143) = false := decide_eq_false c26
                clear c26
                obtain rfl := Option.some.inj H
                go_wp2_with (first | ((with_reducible refine gate_callee (f := 15) rfl ?_); refine goesL_ (some 45) rfl rfl Try.func15 (by kernel_rfl) rfl #[.slice A0 l0.length c0, .int .i64 (Int.tmod (wrap64 (a1)) (l0.length : Int)), .slice A2 l2.length c2, .int .i64 (wrap64 (1 + (Int.tmod (wrap64 (a3)) 200)))] rfl (by (try simp only [List.map_toArray, List.map_cons, List.map_nil]); first | done | rfl | (simp only [List.length_drop, List.length_take]; rfl)) ?_; (with_reducible refine (ages_Next.calls kj4 _ _ l0 (Int.tmod (wrap64 (a1)) (l0.length : Int)) _ _ l2 (wrap64 (1 + (Int.tmod (wrap64 (a3)) 200))) t139 _ ?side1 ?side2 ?side3 ?side4 A19.out).mono ?_); (case side1 => repeat (first | exact (Kd.C_below HR0.out HB.out) | (with_reducible refine Kd.C_alloc ?_ _) | (with_reducible refine Kd.C_drewN ?_ _) | (with_reducible refine Kd.C_drew ?_))); (case side2 => exact HC0.out); (case side3 => repeat (first | exact (Kd.C_below HR2.out HB.out) | (with_reducible refine Kd.C_alloc ?_ _) | (with_reducible refine Kd.C_drewN ?_ _) | (with_reducible refine Kd.C_drew ?_))); (case side4 => exact HC2.out); rintro e w46 ⟨v140, rfl, ho0, hb⟩; refine ⟨_, rfl, ?_⟩; have n0_ := Aside0.mk (Kd.R_lower ho0 (below_size (by repeat (first | (with_reducible first | exact HB.out | apply below_alloc | apply pw_below_drewN | apply below_drew1) | exact HB.out)))); have n1_ := Aside0.mk (below_step (by repeat (first | (with_reducible first | exact HB.out | apply below_alloc | apply pw_below_drewN | apply below_drew1) | exact HB.out)) hb); clear HB; have HO141 := n0_; have HB := n1_; clear n0_ n1_; (try clear hb); (try clear hb2); (try clear hk); (try clear hi); (try clear ho0); obtain ⟨Ao47, co47, eo47⟩ := Kd.R_slice HO141.out; subst eo47) | ((with_reducible refine gate_callee (f := 16) rfl ?_); refine goesL_ (some 48) rfl rfl Try.func16 (by kernel_rfl) rfl #[.slice Ao47 t139.length co47, .int .i64 (wrap64 (1 + (Int.tmod (wrap64 (a3)) 200)))] rfl (by (try simp only [List.map_toArray, List.map_cons, List.map_nil]); first | done | rfl | (simp only [List.length_drop, List.length_take]; rfl)) ?_; (with_reducible refine (ages_Alive.calls kj4 _ _ t139 (wrap64 (1 + (Int.tmod (wrap64 (a3)) 200))) t142 _ ?side1 ?side2 A20.out).mono ?_); (case side1 => repeat (first | exact (Kd.R_reads' HO141.out).2.2 | (with_reducible refine Kd.C_alloc ?_ _) | (with_reducible refine Kd.C_drewN ?_ _) | (with_reducible refine Kd.C_drew ?_))); (case side2 => exact (Kd.R_reads' HO141.out).2.1); rintro e w48 ⟨rfl, hb⟩; refine ⟨_, rfl, ?_⟩; have n0_ := Aside0.mk (Kd.R_below (by (with_reducible repeat (first | apply Kd.R_alloc | apply Kd.R_drewN | apply Kd.R_drew)); exact HO141.out) hb); have n1_ := Aside0.mk (below_step (by repeat (first | (with_reducible first | exact HB.out | apply below_alloc | apply pw_below_drewN | apply below_drew1) | exact HB.out)) hb); clear HO141; clear HB; have HO141 := n0_; have HB := n1_; clear n0_ n1_; (try clear hb); (try clear hb2); (try clear hk); (try clear hi)) | ((with_reducible refine gate_callee (f := 18) rfl ?_); refine goesL_ (some 51) rfl rfl Try.func18 (by kernel_rfl) rfl #[.slice Ao47 t139.length co47, .int .i64 (wrap64 (1 + (Int.tmod (wrap64 (a3)) 200)))] rfl (by (try simp only [List.map_toArray, List.map_cons, List.map_nil]); first | done | rfl | (simp only [List.length_drop, List.length_take]; rfl)) ?_; (with_reducible refine (ages_Root.calls kj4 _ _ t139 (wrap64 (1 + (Int.tmod (wrap64 (a3)) 200))) t143 _ ?side1 ?side2 A21.out).mono ?_); (case side1 => repeat (first | exact (Kd.R_reads' HO141.out).2.2 | (with_reducible refine Kd.C_alloc ?_ _) | (with_reducible refine Kd.C_drewN ?_ _) | (with_reducible refine Kd.C_drew ?_))); (case side2 => exact (Kd.R_reads' HO141.out).2.1); rintro e w49 ⟨rfl, hb⟩; refine ⟨_, rfl, ?_⟩; have n0_ := Aside0.mk (Kd.R_below (by (with_reducible repeat (first | apply Kd.R_alloc | apply Kd.R_drewN | apply Kd.R_drew)); exact HO141.out) hb); have n1_ := Aside0.mk (below_step (by repeat (first | (with_reducible first | exact HB.out | apply below_alloc | apply pw_below_drewN | apply below_drew1) | exact HB.out)) hb); clear HO141; clear HB; have HO141 := n0_; have HB := n1_; clear n0_ n1_; (try clear hb); (try clear hb2); (try clear hk); (try clear hi)))
                go_ret
                exact ⟨by first | rfl | (simp [errW_none, errW_some] <;> rfl) | (simp only [← hji22, ← hji24]; first | rfl | (simp [errW_none, errW_some] <;> rfl)) | (simp [*, errW_none, errW_some] <;> rfl), by repeat (first | (with_reducible first | exact HB.out | apply below_alloc | apply pw_below_drewN | apply below_drew1) | exact HB.out)⟩
            · rw [if_neg c25] at H
              have c25b0 : ((Go.bits .and .i64 (ji24) 1) == 1) = false := beq_eq_false_iff_ne.mpr c25
              have c25b1 : ((Go.bits .and .i64 (ji24) 1) != 1) = true := bne_iff_ne.mpr c25
              obtain rfl := Option.some.inj H
              go_wp2_with (first | ((with_reducible refine gate_callee (f := 15) rfl ?_); refine goesL_ (some 45) rfl rfl Try.func15 (by kernel_rfl) rfl #[.slice A0 l0.length c0, .int .i64 (Int.tmod (wrap64 (a1)) (l0.length : Int)), .slice A2 l2.length c2, .int .i64 (wrap64 (1 + (Int.tmod (wrap64 (a3)) 200)))] rfl (by (try simp only [List.map_toArray, List.map_cons, List.map_nil]); first | done | rfl | (simp only [List.length_drop, List.length_take]; rfl)) ?_; (with_reducible refine (ages_Next.calls kj4 _ _ l0 (Int.tmod (wrap64 (a1)) (l0.length : Int)) _ _ l2 (wrap64 (1 + (Int.tmod (wrap64 (a3)) 200))) t139 _ ?side1 ?side2 ?side3 ?side4 A19.out).mono ?_); (case side1 => repeat (first | exact (Kd.C_below HR0.out HB.out) | (with_reducible refine Kd.C_alloc ?_ _) | (with_reducible refine Kd.C_drewN ?_ _) | (with_reducible refine Kd.C_drew ?_))); (case side2 => exact HC0.out); (case side3 => repeat (first | exact (Kd.C_below HR2.out HB.out) | (with_reducible refine Kd.C_alloc ?_ _) | (with_reducible refine Kd.C_drewN ?_ _) | (with_reducible refine Kd.C_drew ?_))); (case side4 => exact HC2.out); rintro e w50 ⟨v140, rfl, ho0, hb⟩; refine ⟨_, rfl, ?_⟩; have n0_ := Aside0.mk (Kd.R_lower ho0 (below_size (by repeat (first | (with_reducible first | exact HB.out | apply below_alloc | apply pw_below_drewN | apply below_drew1) | exact HB.out)))); have n1_ := Aside0.mk (below_step (by repeat (first | (with_reducible first | exact HB.out | apply below_alloc | apply pw_below_drewN | apply below_drew1) | exact HB.out)) hb); clear HB; have HO141 := n0_; have HB := n1_; clear n0_ n1_; (try clear hb); (try clear hb2); (try clear hk); (try clear hi); (try clear ho0); obtain ⟨Ao51, co51, eo51⟩ := Kd.R_slice HO141.out; subst eo51) | ((with_reducible refine gate_callee (f := 16) rfl ?_); refine goesL_ (some 48) rfl rfl Try.func16 (by kernel_rfl) rfl #[.slice Ao51 t139.length co51, .int .i64 (wrap64 (1 + (Int.tmod (wrap64 (a3)) 200)))] rfl (by (try simp only [List.map_toArray, List.map_cons, List.map_nil]); first | done | rfl | (simp only [List.length_drop, List.length_take]; rfl)) ?_; (with_reducible refine (ages_Alive.calls kj4 _ _ t139 (wrap64 (1 + (Int.tmod (wrap64 (a3)) 200))) t142 _ ?side1 ?side2 A20.out).mono ?_); (case side1 => repeat (first | exact (Kd.R_reads' HO141.out).2.2 | (with_reducible refine Kd.C_alloc ?_ _) | (with_reducible refine Kd.C_drewN ?_ _) | (with_reducible refine Kd.C_drew ?_))); (case side2 => exact (Kd.R_reads' HO141.out).2.1); rintro e w52 ⟨rfl, hb⟩; refine ⟨_, rfl, ?_⟩; have n0_ := Aside0.mk (Kd.R_below (by (with_reducible repeat (first | apply Kd.R_alloc | apply Kd.R_drewN | apply Kd.R_drew)); exact HO141.out) hb); have n1_ := Aside0.mk (below_step (by repeat (first | (with_reducible first | exact HB.out | apply below_alloc | apply pw_below_drewN | apply below_drew1) | exact HB.out)) hb); clear HO141; clear HB; have HO141 := n0_; have HB := n1_; clear n0_ n1_; (try clear hb); (try clear hb2); (try clear hk); (try clear hi)) | ((with_reducible refine gate_callee (f := 18) rfl ?_); refine goesL_ (some 51) rfl rfl Try.func18 (by kernel_rfl) rfl #[.slice Ao51 t139.length co51, .int .i64 (wrap64 (1 + (Int.tmod (wrap64 (a3)) 200)))] rfl (by (try simp only [List.map_toArray, List.map_cons, List.map_nil]); first | done | rfl | (simp only [List.length_drop, List.length_take]; rfl)) ?_; (with_reducible refine (ages_Root.calls kj4 _ _ t139 (wrap64 (1 + (Int.tmod (wrap64 (a3)) 200))) t143 _ ?side1 ?side2 A21.out).mono ?_); (case side1 => repeat (first | exact (Kd.R_reads' HO141.out).2.2 | (with_reducible refine Kd.C_alloc ?_ _) | (with_reducible refine Kd.C_drewN ?_ _) | (with_reducible refine Kd.C_drew ?_))); (case side2 => exact (Kd.R_reads' HO141.out).2.1); rintro e w53 ⟨rfl, hb⟩; refine ⟨_, rfl, ?_⟩; have n0_ := Aside0.mk (Kd.R_below (by (with_reducible repeat (first | apply Kd.R_alloc | apply Kd.R_drewN | apply Kd.R_drew)); exact HO141.out) hb); have n1_ := Aside0.mk (below_step (by repeat (first | (with_reducible first | exact HB.out | apply below_alloc | apply pw_below_drewN | apply below_drew1) | exact HB.out)) hb); clear HO141; clear HB; have HO141 := n0_; have HB := n1_; clear n0_ n1_; (try clear hb); (try clear hb2); (try clear hk); (try clear hi)))
              go_ret
              exact ⟨by first | rfl | (simp [errW_none, errW_some] <;> rfl) | (simp only [← hji22, ← hji24]; first | rfl | (simp [errW_none, errW_some] <;> rfl)) | (simp [*, errW_none, errW_some] <;> rfl), by repeat (first | (with_reducible first | exact HB.out | apply below_alloc | apply pw_below_drewN | apply below_drew1) | exact HB.out)⟩
          · rw [if_neg c23] at H
            exact absurd H (by simp)

end Go.Proofs.Ythkagdbabkkomaa.PAgesRoot
