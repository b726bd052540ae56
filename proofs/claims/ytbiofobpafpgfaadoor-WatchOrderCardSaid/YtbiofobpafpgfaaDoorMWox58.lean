/- Made for this claim by a program of this session (wip/mp.py). -/
import Derived.Test.YtbiofobpafpgfaaDoorMWox0
namespace Go.Proofs.YtbiofobpafpgfaaDoor.MWo
open Go.RowKit Go.Proofs.YtbiofobpafpgfaaDoorW.PrintWords Go.Proofs.YtbiofobpafpgfaaDoorW.PrintLast Go.Proofs.YtbiofobpafpgfaaDoorW.PrintMore
attribute [local go_sem] mp_u32s mp_u32m mp_u8s mp_u8m max2_int min2_int max_two min_two max_three min_three max_four min_four   -- for this text's walks alone
set_option linter.unusedVariables false
set_option linter.unusedSimpArgs false

/-! ### drumlineref26_Order: function 8 -/
mutual
def drumlineref26_Order.l0 : Nat → List (S52) → Int → Option (Bool)
  | 0, _, _ => none
  | k + 1, x0, x3 => if x3 < (x0.length : Int) then (drumlineref26_Order.l1 k x0 x3 0 0) else (some true)
def drumlineref26_Order.l1 : Nat → List (S52) → Int → Int → Int → Option (Bool)
  | 0, _, _, _, _ => none
  | k + 1, x0, x3, x4, x5 => if x5 < x3 then (if 0 ≤ x5 then (if x5 < (x0.length : Int) then (if 0 ≤ x3 then (if x3 < (x0.length : Int) then (if ((rd_T52 x0 x5).f0) = ((rd_T52 x0 x3).f0) then (drumlineref26_Order.l1 k x0 x3 ((rd_T52 x0 x5).f1) (wrap64 (x5 + 1))) else (drumlineref26_Order.l1 k x0 x3 x4 (wrap64 (x5 + 1)))) else (none)) else (none)) else (none)) else (none)) else (if 0 ≤ x3 then (if x3 < (x0.length : Int) then (if ((rd_T52 x0 x3).f1) ≤ x4 then (some false) else (if (((rd_T52 x0 x3).f2) != ((wrap64 (((rd_T52 x0 x3).f1) - 1)) != x4)) = true then (some false) else (drumlineref26_Order.l0 k x0 (wrap64 (x3 + 1))))) else (none)) else (none))
end
def drumlineref26_Order.f (k : Nat) (l0 : List (S52)) : Option (Bool) := drumlineref26_Order.l0 k l0 0
theorem drumlineref26_Order.mono_l : ∀ k, (∀ y0 y1, LeO (drumlineref26_Order.l0 k y0 y1) (drumlineref26_Order.l0 (k + 1) y0 y1)) ∧ (∀ y0 y1 y2 y3, LeO (drumlineref26_Order.l1 k y0 y1 y2 y3) (drumlineref26_Order.l1 (k + 1) y0 y1 y2 y3))
  | 0 => ⟨fun _ _ r h => by simp [drumlineref26_Order.l0] at h, fun _ _ _ _ r h => by simp [drumlineref26_Order.l1] at h⟩
  | k + 1 => by
    obtain ⟨ih0, ih1⟩ := drumlineref26_Order.mono_l k
    refine ⟨?_, ?_⟩
    · intro y0 y1
      unfold drumlineref26_Order.l0
      repeat' first
      | (with_reducible exact ih0 _ _)
      | (with_reducible exact ih1 _ _ _ _)
      | (with_reducible exact LeO.refl _)
      | (with_reducible exact LeO.none _)
      | (with_reducible refine LeO.ite ?_ ?_)
      | (with_reducible refine LeO.bind ?_ (fun _ => ?_))
      | exact ih0 _ _
      | exact ih1 _ _ _ _
      | exact LeO.none _
      | refine LeO.ite ?_ ?_
      | refine LeO.bind ?_ (fun _ => ?_)
    · intro y0 y1 y2 y3
      unfold drumlineref26_Order.l1
      repeat' first
      | (with_reducible exact ih0 _ _)
      | (with_reducible exact ih1 _ _ _ _)
      | (with_reducible exact LeO.refl _)
      | (with_reducible exact LeO.none _)
      | (with_reducible refine LeO.ite ?_ ?_)
      | (with_reducible refine LeO.bind ?_ (fun _ => ?_))
      | exact ih0 _ _
      | exact ih1 _ _ _ _
      | exact LeO.none _
      | refine LeO.ite ?_ ?_
      | refine LeO.bind ?_ (fun _ => ?_)
theorem drumlineref26_Order.mono : ∀ a0 k, LeO (drumlineref26_Order.f k a0) (drumlineref26_Order.f (k + 1) a0) := by
  intro a0 k
  obtain ⟨ih0, ih1⟩ := drumlineref26_Order.mono_l k
  unfold drumlineref26_Order.f
  repeat' first
      | (with_reducible exact ih0 _ _)
      | (with_reducible exact ih1 _ _ _ _)
      | (with_reducible exact LeO.refl _)
      | (with_reducible exact LeO.none _)
      | (with_reducible refine LeO.ite ?_ ?_)
      | (with_reducible refine LeO.bind ?_ (fun _ => ?_))
      | exact ih0 _ _
      | exact ih1 _ _ _ _
      | exact LeO.none _
      | refine LeO.ite ?_ ?_
      | refine LeO.bind ?_ (fun _ => ?_)
set_option maxHeartbeats 8000000 in
set_option maxRecDepth 100000 in
theorem drumlineref26_Order.calls (k : Nat) (A0 : Option Addr) (c0 : Nat) (l0 : List (S52)) (r : Bool) (w : World) (hr0 : Kd.C k52 w A0 l0.length l0) (hc0 : l0.length ≤ c0) (h : drumlineref26_Order.f k l0 = some r) :
    Calls Tryd.prog 8 #[.slice A0 l0.length c0] w fun e w' => e = .returned (.bool r) ∧ Drawn0 w w' := by
  have HR0 := Aside0.mk hr0
  have HC0 := Aside0.mk hc0
  clear hr0 hc0
  have H : (drumlineref26_Order.l0 k l0 0) = some r := h
  clear h
  have H' := Aside0.mk H
  clear H
  go_enter Tryd.func8, Tryd.ntmps8
  go_wp2
  repeat (go_quiet (fail); try go_wp2)
  go_loopg [3] k (fun kq v3 w' => ∃ (x3_1 : Int), v3 = .int .i64 x3_1 ∧ Aside0 (drumlineref26_Order.l0 kq l0 x3_1 = some r) ∧ Aside0 (kq ≤ k) ∧ Drawn0 w w')
  case atStart => exact ⟨(0), (by first | rfl | (simp; done) | (simp [*]; done)), H', ⟨Nat.le_refl _⟩, by repeat (first | exact Drawn0.refl _ | apply Drawn0.step)⟩
  case round =>
    clear H'
    obtain ⟨x3_1, rfl, HA, HK1, ⟨m1, rfl⟩⟩ := hrel
    cases gk with
    | zero => exact absurd HA.out (by simp [drumlineref26_Order.l0])
    | succ k1 =>
      have H := HA.out
      clear HA
      simp only [drumlineref26_Order.l0] at H
      by_cases c2 : x3_1 < (l0.length : Int)
      · rw [if_pos c2] at H
        have c2b0 : decide (x3_1 < (l0.length : Int)) = true := decide_eq_true c2
        clear c2
        have H' := Aside0.mk H
        clear H
        go_wp2
        repeat (go_quiet (fail); try go_wp2)
        go_loopg [4, 5] k1 (fun kq v4 v5 w' => ∃ (x4_2 : Int) (x5_2 : Int), v4 = .int .i64 x4_2 ∧ v5 = .int .i64 x5_2 ∧ Aside0 (drumlineref26_Order.l1 kq l0 x3_1 x4_2 x5_2 = some r) ∧ Aside0 (kq ≤ k1) ∧ Drawn0 w w')
        case atStart => exact ⟨(0), (0), (by first | rfl | (simp; done) | (simp [*]; done)), (by first | rfl | (simp; done) | (simp [*]; done)), H', ⟨Nat.le_refl _⟩, by repeat (first | exact Drawn0.refl _ | apply Drawn0.step)⟩
        case round =>
          clear H'
          try clear c2
          try clear c2b0
          try clear p2
          obtain ⟨x4_2, x5_2, rfl, rfl, HA, HK2, ⟨m2, rfl⟩⟩ := hrel
          cases gk with
          | zero => exact absurd HA.out (by simp [drumlineref26_Order.l1])
          | succ k2 =>
            have H := HA.out
            clear HA
            simp only [drumlineref26_Order.l1] at H
            by_cases c3 : x5_2 < x3_1
            · rw [if_pos c3] at H
              have c3b0 : decide (x5_2 < x3_1) = true := decide_eq_true c3
              clear c3
              by_cases c4 : 0 ≤ x5_2
              · rw [if_pos c4] at H
                have c4b0 : decide (0 ≤ x5_2) = true := decide_eq_true c4
                clear c4
                by_cases c5 : x5_2 < (l0.length : Int)
                · rw [if_pos c5] at H
                  have c5b0 : decide (x5_2 < (l0.length : Int)) = true := decide_eq_true c5
                  clear c5
                  by_cases c6 : 0 ≤ x3_1
                  · rw [if_pos c6] at H
                    have c6b0 : decide (0 ≤ x3_1) = true := decide_eq_true c6
                    clear c6
                    by_cases c7 : x3_1 < (l0.length : Int)
                    · rw [if_pos c7] at H
                      have c7b0 : decide (x3_1 < (l0.length : Int)) = true := decide_eq_true c7
                      clear c7
                      by_cases c8 : ((rd_T52 l0 x5_2).f0) = ((rd_T52 l0 x3_1).f0)
                      · rw [if_pos c8] at H
                        have c8b0 : (((rd_T52 l0 x5_2).f0) == ((rd_T52 l0 x3_1).f0)) = true := beq_iff_eq.mpr c8
                        have c8b1 : (((rd_T52 l0 x5_2).f0) != ((rd_T52 l0 x3_1).f0)) = false := bne_eq_false_iff_eq.mpr c8
                        clear c8
                        have H' := Aside0.mk H
                        clear H
                        have p140 : 0 ≤ (x5_2 : Int) := of_decide_eq_true (by first | (with_reducible assumption) | assumption)
                        have q140 : x5_2 < (l0.length : Int) := of_decide_eq_true (by first | (with_reducible assumption) | assumption)
                        obtain ⟨ad140, A140_3, c140_3, e140, hx140_0, hx140_1, hx140_2, hx140_3, hl140_3, hi140_3⟩ := at_T52 HR0.out x5_2 p140 q140
                        cases e140
                        have HR140_3 := Aside0.mk hi140_3
                        have HC140_3 := Aside0.mk hl140_3
                        clear hi140_3 hl140_3
                        replace p140 := eq_true p140
                        replace q140 := eq_true q140
                        have p141 : 0 ≤ (x3_1 : Int) := of_decide_eq_true (by first | (with_reducible assumption) | assumption)
                        have q141 : x3_1 < (l0.length : Int) := of_decide_eq_true (by first | (with_reducible assumption) | assumption)
                        obtain ⟨ad141, A141_3, c141_3, e141, hx141_0, hx141_1, hx141_2, hx141_3, hl141_3, hi141_3⟩ := at_T52 HR0.out x3_1 p141 q141
                        obtain rfl : ad140 = ad141 := (by injection e141)
                        have HR141_3 := Aside0.mk hi141_3
                        have HC141_3 := Aside0.mk hl141_3
                        clear hi141_3 hl141_3
                        replace p141 := eq_true p141
                        replace q141 := eq_true q141
                        have p142 : 0 ≤ (x5_2 : Int) := of_decide_eq_true (by first | (with_reducible assumption) | assumption)
                        have q142 : x5_2 < (l0.length : Int) := of_decide_eq_true (by first | (with_reducible assumption) | assumption)
                        obtain ⟨ad142, A142_3, c142_3, e142, hx142_0, hx142_1, hx142_2, hx142_3, hl142_3, hi142_3⟩ := at_T52 HR0.out x5_2 p142 q142
                        obtain rfl : ad140 = ad142 := (by injection e142)
                        have HR142_3 := Aside0.mk hi142_3
                        have HC142_3 := Aside0.mk hl142_3
                        clear hi142_3 hl142_3
                        replace p142 := eq_true p142
                        replace q142 := eq_true q142
                        have ea_ := Option.some.inj (hx140_3.symm.trans hx142_3)
                        injection ea_ with ea_ en_ ec_
                        subst ea_
                        subst ec_
                        clear en_
                        go_wp2
                        repeat (go_quiet (fail); try go_wp2)
                        go_roundg k2
                        case measure => have := HK1.out; have := HK2.out; omega
                        case rel => exact ⟨((rd_T52 l0 x5_2).f1), (wrap64 (x5_2 + 1)), (by first | rfl | (simp; done) | (simp [*]; done)), (by first | rfl | (simp; done) | (simp [*]; done)), H', ⟨by have := HK1.out; have := HK2.out; omega⟩, by repeat (first | exact Drawn0.refl _ | apply Drawn0.step)⟩
                      · rw [if_neg c8] at H
                        have c8b0 : (((rd_T52 l0 x5_2).f0) == ((rd_T52 l0 x3_1).f0)) = false := beq_eq_false_iff_ne.mpr c8
                        have c8b1 : (((rd_T52 l0 x5_2).f0) != ((rd_T52 l0 x3_1).f0)) = true := bne_iff_ne.mpr c8
                        have H' := Aside0.mk H
                        clear H
                        have p140 : 0 ≤ (x5_2 : Int) := of_decide_eq_true (by first | (with_reducible assumption) | assumption)
                        have q140 : x5_2 < (l0.length : Int) := of_decide_eq_true (by first | (with_reducible assumption) | assumption)
                        obtain ⟨ad140, A140_3, c140_3, e140, hx140_0, hx140_1, hx140_2, hx140_3, hl140_3, hi140_3⟩ := at_T52 HR0.out x5_2 p140 q140
                        cases e140
                        have HR140_3 := Aside0.mk hi140_3
                        have HC140_3 := Aside0.mk hl140_3
                        clear hi140_3 hl140_3
                        replace p140 := eq_true p140
                        replace q140 := eq_true q140
                        have p141 : 0 ≤ (x3_1 : Int) := of_decide_eq_true (by first | (with_reducible assumption) | assumption)
                        have q141 : x3_1 < (l0.length : Int) := of_decide_eq_true (by first | (with_reducible assumption) | assumption)
                        obtain ⟨ad141, A141_3, c141_3, e141, hx141_0, hx141_1, hx141_2, hx141_3, hl141_3, hi141_3⟩ := at_T52 HR0.out x3_1 p141 q141
                        obtain rfl : ad140 = ad141 := (by injection e141)
                        have HR141_3 := Aside0.mk hi141_3
                        have HC141_3 := Aside0.mk hl141_3
                        clear hi141_3 hl141_3
                        replace p141 := eq_true p141
                        replace q141 := eq_true q141
                        go_wp2
                        repeat (go_quiet (fail); try go_wp2)
                        go_roundg k2
                        case measure => have := HK1.out; have := HK2.out; omega
                        case rel => exact ⟨(x4_2), (wrap64 (x5_2 + 1)), (by first | rfl | (simp; done) | (simp [*]; done)), (by first | rfl | (simp; done) | (simp [*]; done)), H', ⟨by have := HK1.out; have := HK2.out; omega⟩, by repeat (first | exact Drawn0.refl _ | apply Drawn0.step)⟩
                    · rw [if_neg c7] at H
                      exact absurd H (by simp)
                  · rw [if_neg c6] at H
                    exact absurd H (by simp)
                · rw [if_neg c5] at H
                  exact absurd H (by simp)
              · rw [if_neg c4] at H
                exact absurd H (by simp)
            · rw [if_neg c3] at H
              have c3b0 : decide (x5_2 < x3_1) = false := decide_eq_false c3
              clear c3
              by_cases c9 : 0 ≤ x3_1
              · rw [if_pos c9] at H
                have c9b0 : decide (0 ≤ x3_1) = true := decide_eq_true c9
                clear c9
                by_cases c10 : x3_1 < (l0.length : Int)
                · rw [if_pos c10] at H
                  have c10b0 : decide (x3_1 < (l0.length : Int)) = true := decide_eq_true c10
                  clear c10
                  by_cases c11 : ((rd_T52 l0 x3_1).f1) ≤ x4_2
                  · rw [if_pos c11] at H
                    have c11b0 : decide (((rd_T52 l0 x3_1).f1) ≤ x4_2) = true := decide_eq_true c11
                    clear c11
                    obtain rfl := Option.some.inj H
                    have p143 : 0 ≤ (x3_1 : Int) := of_decide_eq_true (by first | (with_reducible assumption) | assumption)
                    have q143 : x3_1 < (l0.length : Int) := of_decide_eq_true (by first | (with_reducible assumption) | assumption)
                    obtain ⟨ad143, A143_3, c143_3, e143, hx143_0, hx143_1, hx143_2, hx143_3, hl143_3, hi143_3⟩ := at_T52 HR0.out x3_1 p143 q143
                    cases e143
                    have HR143_3 := Aside0.mk hi143_3
                    have HC143_3 := Aside0.mk hl143_3
                    clear hi143_3 hl143_3
                    replace p143 := eq_true p143
                    replace q143 := eq_true q143
                    go_wp2
                    repeat (go_quiet (fail); try go_wp2)
                    go_ret
                    exact ⟨by first | rfl | (simp; done) | (simp [*]; done), by repeat (first | exact Drawn0.refl _ | apply Drawn0.step)⟩
                  · rw [if_neg c11] at H
                    have c11b0 : decide (((rd_T52 l0 x3_1).f1) ≤ x4_2) = false := decide_eq_false c11
                    clear c11
                    by_cases c12 : (((rd_T52 l0 x3_1).f2) != ((wrap64 (((rd_T52 l0 x3_1).f1) - 1)) != x4_2)) = true
                    · rw [if_pos c12] at H
                      have c12b0 : (((rd_T52 l0 x3_1).f2) != ((wrap64 (((rd_T52 l0 x3_1).f1) - 1)) != x4_2)) = true := c12
                      (try (have c12b1 : decide (((rd_T52 l0 x3_1).f2) = ((wrap64 (((rd_T52 l0 x3_1).f1) - 1)) != x4_2)) = false := by simpa using c12))
                      (try (have c12b2 : (((rd_T52 l0 x3_1).f2) == ((wrap64 (((rd_T52 l0 x3_1).f1) - 1)) != x4_2)) = false := by simpa using c12))
                      (try (have c12b3 : ¬ (((rd_T52 l0 x3_1).f2) = ((wrap64 (((rd_T52 l0 x3_1).f1) - 1)) != x4_2)) := by simpa using c12))
                      clear c12
                      obtain rfl := Option.some.inj H
                      have p143 : 0 ≤ (x3_1 : Int) := of_decide_eq_true (by first | (with_reducible assumption) | assumption)
                      have q143 : x3_1 < (l0.length : Int) := of_decide_eq_true (by first | (with_reducible assumption) | assumption)
                      obtain ⟨ad143, A143_3, c143_3, e143, hx143_0, hx143_1, hx143_2, hx143_3, hl143_3, hi143_3⟩ := at_T52 HR0.out x3_1 p143 q143
                      cases e143
                      have HR143_3 := Aside0.mk hi143_3
                      have HC143_3 := Aside0.mk hl143_3
                      clear hi143_3 hl143_3
                      replace p143 := eq_true p143
                      replace q143 := eq_true q143
                      have p144 : 0 ≤ (x3_1 : Int) := of_decide_eq_true (by first | (with_reducible assumption) | assumption)
                      have q144 : x3_1 < (l0.length : Int) := of_decide_eq_true (by first | (with_reducible assumption) | assumption)
                      obtain ⟨ad144, A144_3, c144_3, e144, hx144_0, hx144_1, hx144_2, hx144_3, hl144_3, hi144_3⟩ := at_T52 HR0.out x3_1 p144 q144
                      obtain rfl : ad143 = ad144 := (by injection e144)
                      have HR144_3 := Aside0.mk hi144_3
                      have HC144_3 := Aside0.mk hl144_3
                      clear hi144_3 hl144_3
                      replace p144 := eq_true p144
                      replace q144 := eq_true q144
                      have ea_ := Option.some.inj (hx143_3.symm.trans hx144_3)
                      injection ea_ with ea_ en_ ec_
                      subst ea_
                      subst ec_
                      clear en_
                      have p145 : 0 ≤ (x3_1 : Int) := of_decide_eq_true (by first | (with_reducible assumption) | assumption)
                      have q145 : x3_1 < (l0.length : Int) := of_decide_eq_true (by first | (with_reducible assumption) | assumption)
                      obtain ⟨ad145, A145_3, c145_3, e145, hx145_0, hx145_1, hx145_2, hx145_3, hl145_3, hi145_3⟩ := at_T52 HR0.out x3_1 p145 q145
                      obtain rfl : ad143 = ad145 := (by injection e145)
                      have HR145_3 := Aside0.mk hi145_3
                      have HC145_3 := Aside0.mk hl145_3
                      clear hi145_3 hl145_3
                      replace p145 := eq_true p145
                      replace q145 := eq_true q145
                      have ea_ := Option.some.inj (hx143_3.symm.trans hx145_3)
                      injection ea_ with ea_ en_ ec_
                      subst ea_
                      subst ec_
                      clear en_
                      go_wp2
                      repeat (go_quiet (fail); try go_wp2)
                      go_ret
                      exact ⟨by first | rfl | (simp; done) | (simp [*]; done), by repeat (first | exact Drawn0.refl _ | apply Drawn0.step)⟩
                    · rw [if_neg c12] at H
                      have c12b0 : (((rd_T52 l0 x3_1).f2) != ((wrap64 (((rd_T52 l0 x3_1).f1) - 1)) != x4_2)) = false := by simpa using c12
                      (try (have c12b1 : decide (((rd_T52 l0 x3_1).f2) = ((wrap64 (((rd_T52 l0 x3_1).f1) - 1)) != x4_2)) = true := by simpa using c12))
                      (try (have c12b2 : (((rd_T52 l0 x3_1).f2) == ((wrap64 (((rd_T52 l0 x3_1).f1) - 1)) != x4_2)) = true := by simpa using c12))
                      clear c12
                      have H' := Aside0.mk H
                      clear H
                      have p143 : 0 ≤ (x3_1 : Int) := of_decide_eq_true (by first | (with_reducible assumption) | assumption)
                      have q143 : x3_1 < (l0.length : Int) := of_decide_eq_true (by first | (with_reducible assumption) | assumption)
                      obtain ⟨ad143, A143_3, c143_3, e143, hx143_0, hx143_1, hx143_2, hx143_3, hl143_3, hi143_3⟩ := at_T52 HR0.out x3_1 p143 q143
                      cases e143
                      have HR143_3 := Aside0.mk hi143_3
                      have HC143_3 := Aside0.mk hl143_3
                      clear hi143_3 hl143_3
                      replace p143 := eq_true p143
                      replace q143 := eq_true q143
                      have p144 : 0 ≤ (x3_1 : Int) := of_decide_eq_true (by first | (with_reducible assumption) | assumption)
                      have q144 : x3_1 < (l0.length : Int) := of_decide_eq_true (by first | (with_reducible assumption) | assumption)
                      obtain ⟨ad144, A144_3, c144_3, e144, hx144_0, hx144_1, hx144_2, hx144_3, hl144_3, hi144_3⟩ := at_T52 HR0.out x3_1 p144 q144
                      obtain rfl : ad143 = ad144 := (by injection e144)
                      have HR144_3 := Aside0.mk hi144_3
                      have HC144_3 := Aside0.mk hl144_3
                      clear hi144_3 hl144_3
                      replace p144 := eq_true p144
                      replace q144 := eq_true q144
                      have ea_ := Option.some.inj (hx143_3.symm.trans hx144_3)
                      injection ea_ with ea_ en_ ec_
                      subst ea_
                      subst ec_
                      clear en_
                      have p145 : 0 ≤ (x3_1 : Int) := of_decide_eq_true (by first | (with_reducible assumption) | assumption)
                      have q145 : x3_1 < (l0.length : Int) := of_decide_eq_true (by first | (with_reducible assumption) | assumption)
                      obtain ⟨ad145, A145_3, c145_3, e145, hx145_0, hx145_1, hx145_2, hx145_3, hl145_3, hi145_3⟩ := at_T52 HR0.out x3_1 p145 q145
                      obtain rfl : ad143 = ad145 := (by injection e145)
                      have HR145_3 := Aside0.mk hi145_3
                      have HC145_3 := Aside0.mk hl145_3
                      clear hi145_3 hl145_3
                      replace p145 := eq_true p145
                      replace q145 := eq_true q145
                      have ea_ := Option.some.inj (hx143_3.symm.trans hx145_3)
                      injection ea_ with ea_ en_ ec_
                      subst ea_
                      subst ec_
                      clear en_
                      go_wp2
                      repeat (go_quiet (fail); try go_wp2)
                      go_roundg k2
                      case measure => have := HK1.out; have := HK2.out; omega
                      case rel => exact ⟨(wrap64 (x3_1 + 1)), (by first | rfl | (simp; done) | (simp [*]; done)), H', ⟨by have := HK1.out; have := HK2.out; omega⟩, by repeat (first | exact Drawn0.refl _ | apply Drawn0.step)⟩
                · rw [if_neg c10] at H
                  exact absurd H (by simp)
              · rw [if_neg c9] at H
                exact absurd H (by simp)
      · rw [if_neg c2] at H
        have c2b0 : decide (x3_1 < (l0.length : Int)) = false := decide_eq_false c2
        clear c2
        obtain rfl := Option.some.inj H
        go_wp2
        repeat (go_quiet (fail); try go_wp2)
        go_ret
        exact ⟨by first | rfl | (simp; done) | (simp [*]; done), by repeat (first | exact Drawn0.refl _ | apply Drawn0.step)⟩

end Go.Proofs.YtbiofobpafpgfaaDoor.MWo
