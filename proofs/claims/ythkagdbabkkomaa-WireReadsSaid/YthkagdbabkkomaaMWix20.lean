/- Made for this claim by a program of this session (wip/mp.py). -/
import Derived.Test.YthkagdbabkkomaaMWix0
import Derived.Test.YthkagdbabkkomaaMWix14
namespace Go.Proofs.Ythkagdbabkkomaa.MWi
open Go.RowKit Go.Proofs.YthkagdbabkkomaaW.PrintWords Go.Proofs.YthkagdbabkkomaaW.PrintLast Go.Proofs.YthkagdbabkkomaaW.PrintMore
attribute [local go_sem] mp_u32s mp_u32m mp_u8s mp_u8m max2_int min2_int max_two min_two max_three min_three max_four min_four   -- for this text's walks alone
set_option linter.unusedVariables false
set_option linter.unusedSimpArgs false

/-! ### drumlineref1_Offset: function 38 -/
def drumlineref1_Offset.j0 : Nat → List Int → Bool → Option (Int)
  | 0, _, _ => none
  | k + 1, x0, x11 => if x11 = true then (some 0) else ((drumlineref1_Number.f k x0).bind fun t164 => (if 0 < (x0.length : Int) then (if (rd x0 0) ≥ 128 then (if 0 ≤ (IntKind.u64.wrap (wrap64 (8 * (x0.length : Int)))) then (some (wrap64 (t164 - (shl .i64 1 (IntKind.u64.wrap (wrap64 (8 * (x0.length : Int)))))))) else (none)) else (some t164)) else (none)))
def drumlineref1_Offset.f (k : Nat) (l0 : List Int) : Option (Int) := if (l0.length : Int) = 0 then (drumlineref1_Offset.j0 k l0 true) else (drumlineref1_Offset.j0 k l0 (decide ((l0.length : Int) > 7)))
theorem drumlineref1_Offset.mono_l : ∀ k, (∀ y0 y1, LeO (drumlineref1_Offset.j0 k y0 y1) (drumlineref1_Offset.j0 (k + 1) y0 y1))
  | 0 => fun _ _ r h => by simp [drumlineref1_Offset.j0] at h
  | k + 1 => by
    have ih0 := drumlineref1_Offset.mono_l k
    · intro y0 y1
      unfold drumlineref1_Offset.j0
      repeat' first
      | (with_reducible exact ih0 _ _)
      | (with_reducible exact drumlineref1_Number.mono _ _)
      | (with_reducible exact LeO.refl _)
      | (with_reducible exact LeO.none _)
      | (with_reducible refine LeO.ite ?_ ?_)
      | (with_reducible refine LeO.bind ?_ (fun _ => ?_))
      | exact ih0 _ _
      | exact drumlineref1_Number.mono _ _
      | exact LeO.none _
      | refine LeO.ite ?_ ?_
      | refine LeO.bind ?_ (fun _ => ?_)
theorem drumlineref1_Offset.mono : ∀ a0 k, LeO (drumlineref1_Offset.f k a0) (drumlineref1_Offset.f (k + 1) a0) := by
  intro a0 k
  have ih0 := drumlineref1_Offset.mono_l k
  unfold drumlineref1_Offset.f
  repeat' first
      | (with_reducible exact ih0 _ _)
      | (with_reducible exact drumlineref1_Number.mono _ _)
      | (with_reducible exact LeO.refl _)
      | (with_reducible exact LeO.none _)
      | (with_reducible refine LeO.ite ?_ ?_)
      | (with_reducible refine LeO.bind ?_ (fun _ => ?_))
      | exact ih0 _ _
      | exact drumlineref1_Number.mono _ _
      | exact LeO.none _
      | refine LeO.ite ?_ ?_
      | refine LeO.bind ?_ (fun _ => ?_)
set_option maxHeartbeats 8000000 in
set_option maxRecDepth 100000 in
theorem drumlineref1_Offset.calls (k : Nat) (A0 : Option Addr) (c0 : Nat) (l0 : List Int) (r : Int) (w : World) (hr0 : Kd.C (Kd.int .u8) w A0 l0.length l0) (hc0 : l0.length ≤ c0) (h : drumlineref1_Offset.f k l0 = some r) :
    Calls Try.prog 38 #[.slice A0 l0.length c0] w fun e w' => e = .returned (.int .i64 r) ∧ Drawn0 w w' := by
  have HR0 := Aside0.mk hr0
  have HC0 := Aside0.mk hc0
  clear hr0 hc0
  have H : (if (l0.length : Int) = 0 then (drumlineref1_Offset.j0 k l0 true) else (drumlineref1_Offset.j0 k l0 (decide ((l0.length : Int) > 7)))) = some r := h
  clear h
  have HC2 := Aside0.mk H
  clear H
  go_enter Try.func38, Try.ntmps38
  go_upto_region 1 with (fail)
  go_cut [11] (fun v11 wc => ∃ (kq : Nat) (x11_1 : Bool), v11 = .bool x11_1 ∧ Aside0 (drumlineref1_Offset.j0 kq l0 x11_1 = some r) ∧ Aside0 (kq ≤ k) ∧ Drawn0 w wc)
  case first =>
    have H := HC2.out
    clear HC2
    by_cases c3 : (l0.length : Int) = 0
    · rw [if_pos c3] at H
      have c3b0 : ((l0.length : Int) == 0) = true := beq_iff_eq.mpr c3
      have c3b1 : ((l0.length : Int) != 0) = false := bne_eq_false_iff_eq.mpr c3
      clear c3
      (first | rw [c3b0] | (simp only [i64_w, i32_w]; rw [c3b0]) | skip)
      have H' := Aside0.mk H
      clear H
      go_wp2
      go_meet
      case rel => exact ⟨_, (true), (by first | rfl | (simp; done) | (simp [*]; done)), H', ⟨by first | omega | exact Nat.le_refl _⟩, by repeat (first | exact Drawn0.refl _ | apply Drawn0.step)⟩
    · rw [if_neg c3] at H
      have c3b0 : ((l0.length : Int) == 0) = false := beq_eq_false_iff_ne.mpr c3
      have c3b1 : ((l0.length : Int) != 0) = true := bne_iff_ne.mpr c3
      have c3b2 : ¬ (l0 = []) := fun h_ => c3 (by rw [h_]; rfl)
      (first | rw [c3b0] | (simp only [i64_w, i32_w]; rw [c3b0]) | skip)
      have H' := Aside0.mk H
      clear H
      go_wp2
      go_meet
      case rel => exact ⟨_, (decide ((l0.length : Int) > 7)), (by first | rfl | (simp; done) | (simp [*]; done)), H', ⟨by first | omega | exact Nat.le_refl _⟩, by repeat (first | exact Drawn0.refl _ | apply Drawn0.step)⟩
  case rest =>
    clear HC2
    try clear p2
    try clear c3
    try clear c3b0
    try clear c3b1
    try clear c3b2
    obtain ⟨kq, x11_1, rfl, HA, HJ1, ⟨mc1, rfl⟩⟩ := hcut
    cases kq with
    | zero => exact absurd HA.out (by simp [drumlineref1_Offset.j0])
    | succ kj1 =>
      have H := HA.out
      clear HA
      simp only [drumlineref1_Offset.j0] at H
      by_cases c4 : x11_1 = true
      · subst c4
        have H1 : (some 0) = some r := by rw [if_pos rfl] at H; exact H
        clear H
        have H := H1
        clear H1
        obtain rfl := Option.some.inj H
        go_wp2
        go_ret
        exact ⟨by first | rfl | (simp; done) | (simp [*]; done), by repeat (first | exact Drawn0.refl _ | apply Drawn0.step)⟩
      · replace c4 := Bool.eq_false_iff.mpr c4
        subst c4
        have H1 : ((drumlineref1_Number.f kj1 l0).bind fun t164 => (if 0 < (l0.length : Int) then (if (rd l0 0) ≥ 128 then (if 0 ≤ (IntKind.u64.wrap (wrap64 (8 * (l0.length : Int)))) then (some (wrap64 (t164 - (shl .i64 1 (IntKind.u64.wrap (wrap64 (8 * (l0.length : Int)))))))) else (none)) else (some t164)) else (none))) = some r := by rw [if_neg (show ¬ (false = true) by decide)] at H; exact H
        clear H
        have H := H1
        clear H1
        replace H := Option.bind_eq_some_iff.mp H
        obtain ⟨t164, A50, H⟩ := H
        replace H : (if 0 < (l0.length : Int) then (if (rd l0 0) ≥ 128 then (if 0 ≤ (IntKind.u64.wrap (wrap64 (8 * (l0.length : Int)))) then (some (wrap64 (t164 - (shl .i64 1 (IntKind.u64.wrap (wrap64 (8 * (l0.length : Int)))))))) else (none)) else (some t164)) else (none)) = some r := H
        have A5 := Aside0.mk A50
        clear A50
        by_cases c6 : 0 < (l0.length : Int)
        · rw [if_pos c6] at H
          have c6b0 : decide (0 < (l0.length : Int)) = true := decide_eq_true c6
          have c6b1 : decide (0 < l0.length) = true := decide_eq_true (by omega)
          clear c6
          by_cases c7 : (rd l0 0) ≥ 128
          · rw [if_pos c7] at H
            have c7b0 : decide (128 ≤ (rd l0 0)) = true := decide_eq_true c7
            clear c7
            obtain ⟨ji8, hji8⟩ : ∃ j_ : Int, (IntKind.u64.wrap (wrap64 (8 * (l0.length : Int)))) = j_ := ⟨_, rfl⟩
            replace H : (if 0 ≤ (ji8) then (some (wrap64 (t164 - (shl .i64 1 (ji8))))) else (none)) = some r := by first | (rw [hji8] at H; exact H) | (simp only [hji8] at H ⊢; exact H)
            (try rw [hji8] at A5)
            by_cases c9 : 0 ≤ (ji8)
            · rw [if_pos c9] at H
              have c9b0 := eq_true c9
              have c9b1 : decide (0 ≤ (ji8)) = true := decide_eq_true c9
              clear c9
              obtain ⟨ji10, hji10⟩ : ∃ j_ : Int, (shl .i64 1 (ji8)) = j_ := ⟨_, rfl⟩
              replace H : (some (wrap64 (t164 - (ji10)))) = some r := by first | (rw [hji10] at H; exact H) | (simp only [hji10] at H ⊢; exact H)
              (try rw [hji10] at A5)
              have hji10_ : (IntKind.i64.wrap (1 * 2 ^ min (ji8).toNat 64)) = ji10 := hji10
              have hji10z : (ji8) ≤ 64 → (IntKind.i64.wrap (1 * 2 ^ (ji8).toNat)) = ji10 := shl_small hji10
              have hji10u : (IntKind.i64.wrap (2 ^ min (ji8).toNat 64)) = ji10 := by have h_ := hji10_; rw [Int.one_mul] at h_; exact h_
              have hji10v : (ji8) ≤ 64 → (IntKind.i64.wrap (2 ^ (ji8).toNat)) = ji10 := fun hle_ => by have h_ := hji10z hle_; rw [Int.one_mul] at h_; exact h_
              have hji10y : (wrap64 (1 * 2 ^ min (ji8).toNat 64)) = ji10 := (i64_w _).symm.trans hji10_
              have hji10x : (ji8) ≤ 64 → (wrap64 (1 * 2 ^ (ji8).toNat)) = ji10 := fun h_ => (i64_w _).symm.trans (hji10z h_)
              obtain rfl := Option.some.inj H
              go_wp2_with (first | ((with_reducible refine gate_callee (f := 29) rfl ?_); refine goesL_ (some 13) rfl rfl Try.func29 (by kernel_rfl) rfl #[.slice A0 l0.length c0] rfl (by (try simp only [List.map_toArray, List.map_cons, List.map_nil]); first | done | rfl | (simp only [List.length_drop, List.length_take]; rfl)) ?_; (with_reducible refine (drumlineref1_Number.calls kj1 _ _ l0 t164 _ ?side1 ?side2 A5.out).mono ?_); (case side1 => repeat (first | exact HR0.out | (with_reducible refine Kd.C_alloc ?_ _) | (with_reducible refine Kd.C_drewN ?_ _) | (with_reducible refine Kd.C_drew ?_))); (case side2 => exact HC0.out); rintro e w' ⟨rfl, ⟨nd, rfl⟩⟩; refine ⟨_, rfl, ?_⟩; have p165 : 0 ≤ (0 : Int) := (by omega); have q165 : 0 < (l0.length : Int) := of_decide_eq_true (by first | (with_reducible assumption) | assumption); obtain ⟨ad165, e165, hx165_0⟩ := Kd.at_int HR0.out 0 p165 q165; cases e165; have qi165 : (0 < l0.length) = True := eq_true (by omega); (try rw [show ((0 : Int)).toNat = 0 from rfl] at hx165_0); (try rw [Addr.add_zero'] at hx165_0); replace p165 := eq_true p165; replace q165 := eq_true q165))
              go_ret
              exact ⟨by first | rfl | (simp; done) | (simp only [← hji8, ← hji10] <;> (first | rfl | simp)) | (simp [*]; done), by repeat (first | exact Drawn0.refl _ | apply Drawn0.step)⟩
            · rw [if_neg c9] at H
              exact absurd H (by simp)
          · rw [if_neg c7] at H
            have c7b0 : decide (128 ≤ (rd l0 0)) = false := decide_eq_false c7
            clear c7
            obtain rfl := Option.some.inj H
            go_wp2_with (first | ((with_reducible refine gate_callee (f := 29) rfl ?_); refine goesL_ (some 13) rfl rfl Try.func29 (by kernel_rfl) rfl #[.slice A0 l0.length c0] rfl (by (try simp only [List.map_toArray, List.map_cons, List.map_nil]); first | done | rfl | (simp only [List.length_drop, List.length_take]; rfl)) ?_; (with_reducible refine (drumlineref1_Number.calls kj1 _ _ l0 t164 _ ?side1 ?side2 A5.out).mono ?_); (case side1 => repeat (first | exact HR0.out | (with_reducible refine Kd.C_alloc ?_ _) | (with_reducible refine Kd.C_drewN ?_ _) | (with_reducible refine Kd.C_drew ?_))); (case side2 => exact HC0.out); rintro e w' ⟨rfl, ⟨nd, rfl⟩⟩; refine ⟨_, rfl, ?_⟩; have p165 : 0 ≤ (0 : Int) := (by omega); have q165 : 0 < (l0.length : Int) := of_decide_eq_true (by first | (with_reducible assumption) | assumption); obtain ⟨ad165, e165, hx165_0⟩ := Kd.at_int HR0.out 0 p165 q165; cases e165; have qi165 : (0 < l0.length) = True := eq_true (by omega); (try rw [show ((0 : Int)).toNat = 0 from rfl] at hx165_0); (try rw [Addr.add_zero'] at hx165_0); replace p165 := eq_true p165; replace q165 := eq_true q165))
            go_ret
            exact ⟨by first | rfl | (simp; done) | (simp [*]; done), by repeat (first | exact Drawn0.refl _ | apply Drawn0.step)⟩
        · rw [if_neg c6] at H
          exact absurd H (by simp)

end Go.Proofs.Ythkagdbabkkomaa.MWi
